/- Texts of a claim, packed. -/
import Derived.Test.YtjonnfmoocijlaaGreatE39
set_option linter.all false
namespace Go.Proofs.YtjonnfmoocijlaaGreat.P
open Go.RowKit Go.Proofs.YtjonnfmoocijlaaGreatKW.PrintWords
section
variable {d : Int} {L : List (List Int)} {w n r : Nat} {T S : Int} (H : Lo d L w n r T S)
include H
theorem Lo.XK (ms : List Mv) (hl : ms.length ≤ 1000) : Ev (fun k => CS.f k d L T S ms) (decide (VM d L w n r T S ms)) := by
  unfold CS.f
  refine Ep (H.check ms hl) ?_
  by_cases c : VM d L w n r T S ms
  · rw [if_pos c,decide_eq_true c]
    exact Ev.now _
  · rw [if_neg c,decide_eq_false c]
    exact Ev.now _
theorem Lo.a1G (ms : List Mv) (hl : ms.length ≤ 900) (hv : VM d L w n r T S ms) (m : Mv) : Ev (fun k => zK.f k d L T S ms m.f0 m.f1 m.f2.f0 m.f2.f1) (Ij d L w n r T S ms m) := by
  have hs := hv.1.sorted
  have hpl := PU ms m.f0 m.f1
  have hwl := Ls ms m
  unfold zK.f
  refine Ep (H.XK ms (by omega)) ?_
  rw [decide_eq_true hv]
  refine AA rfl (Ep (H.Un m.f0 m.f1) ?_)
  unfold Ij
  by_cases c : 0 ≤ m.f0 ∧ m.f0 < T * n ∧ 0 ≤ m.f1 ∧ m.f1 < (w : Int)
  · rw [if_pos c,if_pos c]
    refine AA rfl (GZ (a := ms) (by unfold D5.f;rw [if_pos (by omega)]) ?_)
    have hsr : Ev (fun k => yt.f k ms m.f0 m.f1) ((Ee ms m.f0 m.f1 : Int),DW ms m.f0 m.f1) := Jv ms hs (by omega) m.f0 m.f1
    refine Ep hsr ?_
    have hj1 : ∀ out,out = EP ms m → Ev (fun k => zK.j1 k out d L T S m.f0 m.f1 m.f2.f0 m.f2.f1) (if VM d L w n r T S (EP ms m) then (EP ms m,0) else ([],1)) := by
      intro out ho
      rw [← ho] at hwl ⊢
      have hol : out.length ≤ 1000 := by omega
      refine evs (fun k => by rw [zK.j1]) (Ep H.PN (Ep H.PN (Ep (H.XK out hol) ?_)))
      by_cases cv : VM d L w n r T S out
      · rw [decide_eq_true cv,if_pos cv]
        refine AA rfl (Ep (H.apart out cv.1.sorted hol cv.1.OM _ _ m.f0 c.1 c.2.1) ?_)
        rw [decide_eq_true (H.LM out cv m.f0 c.1 c.2.1)]
        exact AA rfl (Ev.now _)
      · rw [decide_eq_false cv,if_neg cv]
        exact BF (by decide) (Ev.now _)
    have hww : wrap64 ((Ee ms m.f0 m.f1 : Int) + 1) = (Ee ms m.f0 m.f1 : Int) + 1 := ww (by omega) (by omega)
    have hj0 : ∀ mv x47 : Bool,mv = DW ms m.f0 m.f1 → x47 = (decide (m.f2.f0 = -1) && !mv) → Ev (fun k => zK.j0 k ms (Ee ms m.f0 m.f1 : Int) mv x47 d L T S m.f0 m.f1 m.f2.f0 m.f2.f1)
        (if m.f2.f0 = -1 ∧ (EP ms m).length = ms.length then ([],9) else if VM d L w n r T S (EP ms m) then (EP ms m,0) else ([],1)) := by
      intro mv x47 hm hx
      refine evs (fun k => by rw [zK.j0]) ?_
      by_cases c1 : m.f2.f0 = -1
      · have hP : EP ms m = Dl m ms true := by unfold EP;rw [show (m.f2.f0 == -1) = true from beq_iff_eq.2 c1]
        rw [decide_eq_true c1] at hx
        cases mv with
        | true =>
          subst hx
          have hlt := OT hm.symm
          have he := Tj m ms hs hm.symm
          have hle : (ms.eraseIdx (Ee ms m.f0 m.f1)).length = ms.length - 1 := by rw [List.length_eraseIdx,if_pos hlt]
          refine BF (by decide) (AA c1 (GZ (a := ms.eraseIdx (Ee ms m.f0 m.f1)) ?_ ?_))
          · unfold Dk.f
            rw [hww,if_pos ⟨Int.natCast_nonneg _,by rw [Int.toNat_natCast];exact hlt,rfl⟩,Int.toNat_natCast]
          · rw [if_neg (by rw [hP,he,hle];omega)]
            exact hj1 _ (by rw [hP,he])
        | false =>
          subst hx
          have he := Vn m ms hs hm.symm
          refine AA (by decide) (Hw ?_)
          rw [if_pos ⟨c1,by rw [hP,he]⟩]
      · have hP : EP ms m = Dl m ms false := by unfold EP;rw [show (m.f2.f0 == -1) = false from beq_eq_false_iff_ne.2 c1]
        rw [if_neg (fun h => c1 h.1)]
        rw [decide_eq_false c1] at hx
        subst hx
        refine BF (by simp) (BF c1 ?_)
        cases mv with
        | true =>
          have hlt := OT hm.symm
          refine AA rfl (AA (Int.natCast_nonneg _) (AA (Int.ofNat_lt.2 hlt) ?_))
          rw [Int.toNat_natCast]
          exact hj1 _ (by rw [hP];exact (Yi m ms hs hm.symm).symm)
        | false =>
          refine BF (by decide) (GZ (a := ms.take (Ee ms m.f0 m.f1) ++ [m] ++ ms.drop (Ee ms m.f0 m.f1)) ?_ ?_)
          · unfold CL.f
            rw [if_pos ⟨rfl,Int.natCast_nonneg _,by rw [Int.toNat_natCast];exact hpl,by omega⟩,Int.toNat_natCast]
          · exact hj1 _ (by rw [hP,Rm m ms hs hm.symm,List.append_assoc];rfl)
    by_cases c1 : m.f2.f0 = -1
    · exact AA c1 (hj0 _ _ rfl (by rw [decide_eq_true c1];rfl))
    · exact BF c1 (hj0 _ _ rfl (by rw [decide_eq_false c1];rfl))
  · rw [if_neg c,if_neg c]
    exact BF (show ¬ (2 : Int) = 0 by decide) (Ev.now _)
end
end Go.Proofs.YtjonnfmoocijlaaGreat.P
namespace Go.Proofs.YtjonnfmoocijlaaGreat.P
open Go.RowKit Go.Proofs.YtjonnfmoocijlaaGreatKW.PrintWords Go.Proofs.YtjonnfmoocijlaaGreatKW.PrintLast Go.Proofs.YtjonnfmoocijlaaGreatKW.PrintMore
attribute [local go_sem] zN zP Af Ag zz zA zO zQ
def D6.f (k : Nat) (yj : Int) (yg : List (List Int)) (ym : Int) (yn : Int) (l1 : List (AP)) (a2 : Int) : Option (List Int × Int) := (yS.f k yj yg ym yn l1).bind fun FV => (if FV.2.2.2.2.2.2.2 = true then (if a2 < 0 then (some (([] : List Int),2)) else (if a2 ≥ yj then (some (([] : List Int),2)) else ((zR.f k FV.1 FV.2.1 FV.2.2.1 FV.2.2.2.1 FV.2.2.2.2.1 FV.2.2.2.2.2.1 FV.2.2.2.2.2.2.1 a2).bind fun XO => (some (XO,0))))) else (some (([] : List Int),1)))
set_option maxHeartbeats 8000000 in
set_option maxRecDepth 100000 in
theorem D6.calls (k : Nat) (yj : Int) (yK : Option Addr) (yE : Nat) (yg : List (List Int)) (ym : Int) (yn : Int) (A1 : Option Addr) (c1 : Nat) (l1 : List (AP)) (a2 : Int) (r1 : List Int) (r2 : Int) (w : World) (zS : Kd.C (Kd.slice 3 (Kd.int .i64)) w yK yg.length yg) (zT : yg.length ≤ yE) (hr1 : Kd.C DN w A1 l1.length l1) (hc1 : l1.length ≤ c1) (h : D6.f k yj yg ym yn l1 a2 = some (r1,r2)) :
  Calls Tryz.prog 9 #[.agg #[.int .i64 yj,.slice yK yg.length yE,.int .i64 ym,.int .i64 yn],.slice A1 l1.length c1,.int .i64 a2] w fun e w' => ∃ G7 : Value,e = .returned (.tuple #[G7,.int .i64 r2]) ∧ Kd.R (Kd.int .i64) 3 w' w.heap.size (fun _ => True) G7 r1 ∧ Below w.heap.size w w' := by
 have ET := Tryz.underlying29;have Mq := Tryz.underlying65;have zk := yf.mk zS;have zq := yf.mk zT;clear zS zT;have HR1 := yf.mk hr1;have Gt := yf.mk hc1;clear hr1 hc1;have HB := yf.mk (Below.refl w.heap.size w)
 have H : ((yS.f k yj yg ym yn l1).bind fun FV => (if FV.2.2.2.2.2.2.2 = true then (if a2 < 0 then (some (([] : List Int),2)) else (if a2 ≥ yj then (some (([] : List Int),2)) else ((zR.f k FV.1 FV.2.1 FV.2.2.1 FV.2.2.2.1 FV.2.2.2.2.1 FV.2.2.2.2.2.1 FV.2.2.2.2.2.2.1 a2).bind fun XO => (some (XO,0))))) else (some (([] : List Int),1)))) = some (r1,r2) := h
 clear h;obtain ⟨⟨t212,t213,ak,au,t218,av,t222,az⟩,A4,H⟩ := bE H
 try dsimp only at H
 by_cases c5 : az = true
 rotate_left
 ·
  replace c5 := Bool.eq_false_iff.mpr c5;subst c5
  rw [if_neg (show ¬ (false = true) by decide)] at H
  simp only [Option.some.injEq,Prod.mk.injEq] at H;obtain ⟨rfl,rfl⟩ := H
  go_enter Tryz.func9,Tryz.ntmps9
  go_wp2_with (first | ((with_reducible refine yG (N := 3) rfl ?_);refine yD rfl (N := 3) rfl (cs := #[.int .i64 yj,.slice yK yg.length yE,.int .i64 ym,.int .i64 yn]) (t := 29) (by go_simp) ?_;intro ae hg w36 yI hb;have aa := yf.mk (yI);have af := bG (w := w) hg;have ax := bG (w := w) hg;replace HB := bS HB hb;clear hb yI hg;have Kv := AO aa;have KD := bf aa) | ((with_reducible refine yz (f := 22) rfl ?_);refine gL (some 13) Tryz.func22 #[.agg #[.int .i64 yj,.slice yK yg.length yE,.int .i64 ym,.int .i64 yn],.slice A1 l1.length c1] ?_;(with_reducible refine (yS.calls k yj (fun k_ => k_ < w.heap.size) _ _ yg ym yn (fun k_ => k_ < w.heap.size) _ _ l1 t212 t213 ak au t218 av t222 false _ ?yB ?yC A4.out).mono ?_);(case yB => exact Kd.EA zq.out (Kd.Bq (Kd.IV (Kd.BA 3 (Kd.BV .i64)) zk.out) (bO HB)));(case yC => exact Kd.EA Gt.out (Kd.Bq (Kd.IV Em HR1.out) (bO HB)));rintro e w38 ⟨v214,v219,rfl,ho0,ho1,hb⟩;refine ⟨_,rfl,?_⟩;have ag := yf.mk (Kd.Aw (Kd.yL (ok' := fun k_ => k_ ≠ ae) ho0 (fun k_ Cg => Or.elim Cg (fun hs_ => Or.elim hs_ (fun hs_ => fun e_ => Nat.not_le.2 hs_ (by rw [e_];exact af.out)) (fun hs_ => fun e_ => Nat.not_le.2 hs_ (by rw [e_];exact af.out))) (fun Cm => (Kd.Ac (g := ae) (o := .cells #[.int .i64 yj,.slice yK yg.length yE,.int .i64 ym,.int .i64 yn] 29 (0,0)) (kk aa) k_ Cm)))) (yF (bO HB)));have ah := yf.mk (Kd.Aw (Kd.yL (ok' := fun k_ => k_ ≠ ae) ho1 (fun k_ Cg => Or.elim Cg (fun hs_ => Or.elim hs_ (fun hs_ => fun e_ => Nat.not_le.2 hs_ (by rw [e_];exact af.out)) (fun hs_ => fun e_ => Nat.not_le.2 hs_ (by rw [e_];exact af.out))) (fun Cm => (Kd.Ac (g := ae) (o := .cells #[.int .i64 yj,.slice yK yg.length yE,.int .i64 ym,.int .i64 yn] 29 (0,0)) (kk aa) k_ Cm)))) (yF (bO HB)));replace aa := bB aa hb;replace HB := bS HB hb;clear hb;clear ho0;clear ho1) | ((with_reducible refine yG (N := 8) rfl ?_);refine yD rfl (N := 8) rfl (cs := #[.int .i64 0,.slice none 0 0,.int .i64 0,.int .i64 0,.slice none 0 0,.int .i64 0,.int .i64 0]) (t := 65) (by go_simp) ?_;intro Dg hg w39 yI hb;have Ai := yf.mk (yI);have Q5 := bG (w := w) hg;have Q4 := bG (w := w) hg;have ai := Cq aa hg;have aj := Aq aa hg;replace ag := yf.mk (Kd.zw (Kd.zD (kV ag) Dg (Nat.le_of_eq hg.symm)) hb);replace ah := yf.mk (Kd.zw (Kd.zD (kV ah) Dg (Nat.le_of_eq hg.symm)) hb);replace aa := bB aa hb;replace HB := bS HB hb;clear hb yI hg;have a0w := aj.out;have a0N := ai.out;have OC := Fy Ai;have OG := bf Ai;obtain ⟨a5A,a5S,a1T⟩ := Kd.Ay ag.out;subst a1T;obtain ⟨RD,Px,Sw⟩ := Kd.Ay ah.out;subst Sw))
  go_ret2
  exact ⟨_,by rfl,by exact Kd.Dc _ _ _ _ _,bO HB⟩
 subst c5;rw [if_pos rfl] at H
 by_cases c6 : a2 < 0
 ·
  rw [if_pos c6] at H;have Eu := decide_eq_true c6;clear c6;simp only [Option.some.injEq,Prod.mk.injEq] at H;obtain ⟨rfl,rfl⟩ := H
  go_enter Tryz.func9,Tryz.ntmps9
  go_wp2_with (first | ((with_reducible refine yG (N := 3) rfl ?_);refine yD rfl (N := 3) rfl (cs := #[.int .i64 yj,.slice yK yg.length yE,.int .i64 ym,.int .i64 yn]) (t := 29) (by go_simp) ?_;intro ae hg w7 yI hb;have aa := yf.mk (yI);have af := bG (w := w) hg;have ax := bG (w := w) hg;replace HB := bS HB hb;clear hb yI hg;have QD := AO aa;have QJ := bf aa) | ((with_reducible refine yz (f := 22) rfl ?_);refine gL (some 13) Tryz.func22 #[.agg #[.int .i64 yj,.slice yK yg.length yE,.int .i64 ym,.int .i64 yn],.slice A1 l1.length c1] ?_;(with_reducible refine (yS.calls k yj (fun k_ => k_ < w.heap.size) _ _ yg ym yn (fun k_ => k_ < w.heap.size) _ _ l1 t212 t213 ak au t218 av t222 true _ ?yB ?yC A4.out).mono ?_);(case yB => exact Kd.EA zq.out (Kd.Bq (Kd.IV (Kd.BA 3 (Kd.BV .i64)) zk.out) (bO HB)));(case yC => exact Kd.EA Gt.out (Kd.Bq (Kd.IV Em HR1.out) (bO HB)));rintro e w9 ⟨v214,v219,rfl,ho0,ho1,hb⟩;refine ⟨_,rfl,?_⟩;have ag := yf.mk (Kd.Aw (Kd.yL (ok' := fun k_ => k_ ≠ ae) ho0 (fun k_ Cg => Or.elim Cg (fun hs_ => Or.elim hs_ (fun hs_ => fun e_ => Nat.not_le.2 hs_ (by rw [e_];exact af.out)) (fun hs_ => fun e_ => Nat.not_le.2 hs_ (by rw [e_];exact af.out))) (fun Cm => (Kd.Ac (g := ae) (o := .cells #[.int .i64 yj,.slice yK yg.length yE,.int .i64 ym,.int .i64 yn] 29 (0,0)) (kk aa) k_ Cm)))) (yF (bO HB)));have ah := yf.mk (Kd.Aw (Kd.yL (ok' := fun k_ => k_ ≠ ae) ho1 (fun k_ Cg => Or.elim Cg (fun hs_ => Or.elim hs_ (fun hs_ => fun e_ => Nat.not_le.2 hs_ (by rw [e_];exact af.out)) (fun hs_ => fun e_ => Nat.not_le.2 hs_ (by rw [e_];exact af.out))) (fun Cm => (Kd.Ac (g := ae) (o := .cells #[.int .i64 yj,.slice yK yg.length yE,.int .i64 ym,.int .i64 yn] 29 (0,0)) (kk aa) k_ Cm)))) (yF (bO HB)));replace aa := bB aa hb;replace HB := bS HB hb;clear hb;clear ho0;clear ho1) | ((with_reducible refine yG (N := 8) rfl ?_);refine yD rfl (N := 8) rfl (cs := #[.int .i64 0,.slice none 0 0,.int .i64 0,.int .i64 0,.slice none 0 0,.int .i64 0,.int .i64 0]) (t := 65) (by go_simp) ?_;intro Dg hg w10 yI hb;have Ai := yf.mk (yI);have Q5 := bG (w := w) hg;have Q4 := bG (w := w) hg;have ai := Cq aa hg;have aj := Aq aa hg;replace ag := yf.mk (Kd.zw (Kd.zD (kV ag) Dg (Nat.le_of_eq hg.symm)) hb);replace ah := yf.mk (Kd.zw (Kd.zD (kV ah) Dg (Nat.le_of_eq hg.symm)) hb);replace aa := bB aa hb;replace HB := bS HB hb;clear hb yI hg;have TV := aj.out;have U7 := ai.out;have LP := Fy Ai;have LV := bf Ai;obtain ⟨a3h,a3C,Wu⟩ := Kd.Ay ag.out;subst Wu;obtain ⟨a1e,UC,Ns⟩ := Kd.Ay ah.out;subst Ns))
  go_ret2
  exact ⟨_,by rfl,by exact Kd.Dc _ _ _ _ _,bO HB⟩
 rw [if_neg c6] at H;have Eu := decide_eq_false c6;clear c6
 by_cases c15 : a2 ≥ yj
 ·
  rw [if_pos c15] at H;have Iy := decide_eq_true c15;clear c15;simp only [Option.some.injEq,Prod.mk.injEq] at H;obtain ⟨rfl,rfl⟩ := H
  go_enter Tryz.func9,Tryz.ntmps9
  go_wp2_with (first | ((with_reducible refine yG (N := 3) rfl ?_);refine yD rfl (N := 3) rfl (cs := #[.int .i64 yj,.slice yK yg.length yE,.int .i64 ym,.int .i64 yn]) (t := 29) (by go_simp) ?_;intro ae hg w16 yI hb;have aa := yf.mk (yI);have af := bG (w := w) hg;have ax := bG (w := w) hg;replace HB := bS HB hb;clear hb yI hg;have IB := AO aa;have IG := bf aa) | ((with_reducible refine yz (f := 22) rfl ?_);refine gL (some 13) Tryz.func22 #[.agg #[.int .i64 yj,.slice yK yg.length yE,.int .i64 ym,.int .i64 yn],.slice A1 l1.length c1] ?_;(with_reducible refine (yS.calls k yj (fun k_ => k_ < w.heap.size) _ _ yg ym yn (fun k_ => k_ < w.heap.size) _ _ l1 t212 t213 ak au t218 av t222 true _ ?yB ?yC A4.out).mono ?_);(case yB => exact Kd.EA zq.out (Kd.Bq (Kd.IV (Kd.BA 3 (Kd.BV .i64)) zk.out) (bO HB)));(case yC => exact Kd.EA Gt.out (Kd.Bq (Kd.IV Em HR1.out) (bO HB)));rintro e w18 ⟨v214,v219,rfl,ho0,ho1,hb⟩;refine ⟨_,rfl,?_⟩;have ag := yf.mk (Kd.Aw (Kd.yL (ok' := fun k_ => k_ ≠ ae) ho0 (fun k_ Cg => Or.elim Cg (fun hs_ => Or.elim hs_ (fun hs_ => fun e_ => Nat.not_le.2 hs_ (by rw [e_];exact af.out)) (fun hs_ => fun e_ => Nat.not_le.2 hs_ (by rw [e_];exact af.out))) (fun Cm => (Kd.Ac (g := ae) (o := .cells #[.int .i64 yj,.slice yK yg.length yE,.int .i64 ym,.int .i64 yn] 29 (0,0)) (kk aa) k_ Cm)))) (yF (bO HB)));have ah := yf.mk (Kd.Aw (Kd.yL (ok' := fun k_ => k_ ≠ ae) ho1 (fun k_ Cg => Or.elim Cg (fun hs_ => Or.elim hs_ (fun hs_ => fun e_ => Nat.not_le.2 hs_ (by rw [e_];exact af.out)) (fun hs_ => fun e_ => Nat.not_le.2 hs_ (by rw [e_];exact af.out))) (fun Cm => (Kd.Ac (g := ae) (o := .cells #[.int .i64 yj,.slice yK yg.length yE,.int .i64 ym,.int .i64 yn] 29 (0,0)) (kk aa) k_ Cm)))) (yF (bO HB)));replace aa := bB aa hb;replace HB := bS HB hb;clear hb;clear ho0;clear ho1) | ((with_reducible refine yG (N := 8) rfl ?_);refine yD rfl (N := 8) rfl (cs := #[.int .i64 0,.slice none 0 0,.int .i64 0,.int .i64 0,.slice none 0 0,.int .i64 0,.int .i64 0]) (t := 65) (by go_simp) ?_;intro Dg hg w19 yI hb;have Ai := yf.mk (yI);have Q5 := bG (w := w) hg;have Q4 := bG (w := w) hg;have ai := Cq aa hg;have aj := Aq aa hg;replace ag := yf.mk (Kd.zw (Kd.zD (kV ag) Dg (Nat.le_of_eq hg.symm)) hb);replace ah := yf.mk (Kd.zw (Kd.zD (kV ah) Dg (Nat.le_of_eq hg.symm)) hb);replace aa := bB aa hb;replace HB := bS HB hb;clear hb yI hg;have QK := aj.out;have QO := ai.out;have JH := Fy Ai;have JJ := bf Ai;obtain ⟨a3i,a3D,Ww⟩ := Kd.Ay ag.out;subst Ww;obtain ⟨Yq,YS,Su⟩ := Kd.Ay ah.out;subst Su;have Ny := AO aa;have NE := bf aa))
  go_ret2
  exact ⟨_,by rfl,by exact Kd.Dc _ _ _ _ _,bO HB⟩
 rw [if_neg c15] at H;have Iy := decide_eq_false c15;clear c15;obtain ⟨XO,Vt,H⟩ := bE H
 try dsimp only at H
 simp only [Option.some.injEq,Prod.mk.injEq] at H;obtain ⟨rfl,rfl⟩ := H
 go_enter Tryz.func9,Tryz.ntmps9
 go_wp2_with (first | ((with_reducible refine yG (N := 3) rfl ?_);refine yD rfl (N := 3) rfl (cs := #[.int .i64 yj,.slice yK yg.length yE,.int .i64 ym,.int .i64 yn]) (t := 29) (by go_simp) ?_;intro ae hg w26 yI hb;have aa := yf.mk (yI);have af := bG (w := w) hg;have ax := bG (w := w) hg;replace HB := bS HB hb;clear hb yI hg;have IC := AO aa;have II := bf aa) | ((with_reducible refine yz (f := 22) rfl ?_);refine gL (some 13) Tryz.func22 #[.agg #[.int .i64 yj,.slice yK yg.length yE,.int .i64 ym,.int .i64 yn],.slice A1 l1.length c1] ?_;(with_reducible refine (yS.calls k yj (fun k_ => k_ < w.heap.size) _ _ yg ym yn (fun k_ => k_ < w.heap.size) _ _ l1 t212 t213 ak au t218 av t222 true _ ?yB ?yC A4.out).mono ?_);(case yB => exact Kd.EA zq.out (Kd.Bq (Kd.IV (Kd.BA 3 (Kd.BV .i64)) zk.out) (bO HB)));(case yC => exact Kd.EA Gt.out (Kd.Bq (Kd.IV Em HR1.out) (bO HB)));rintro e w28 ⟨v214,v219,rfl,ho0,ho1,hb⟩;refine ⟨_,rfl,?_⟩;have ag := yf.mk (Kd.Aw (Kd.yL (ok' := fun k_ => k_ ≠ ae) ho0 (fun k_ Cg => Or.elim Cg (fun hs_ => Or.elim hs_ (fun hs_ => fun e_ => Nat.not_le.2 hs_ (by rw [e_];exact af.out)) (fun hs_ => fun e_ => Nat.not_le.2 hs_ (by rw [e_];exact af.out))) (fun Cm => (Kd.Ac (g := ae) (o := .cells #[.int .i64 yj,.slice yK yg.length yE,.int .i64 ym,.int .i64 yn] 29 (0,0)) (kk aa) k_ Cm)))) (yF (bO HB)));have ah := yf.mk (Kd.Aw (Kd.yL (ok' := fun k_ => k_ ≠ ae) ho1 (fun k_ Cg => Or.elim Cg (fun hs_ => Or.elim hs_ (fun hs_ => fun e_ => Nat.not_le.2 hs_ (by rw [e_];exact af.out)) (fun hs_ => fun e_ => Nat.not_le.2 hs_ (by rw [e_];exact af.out))) (fun Cm => (Kd.Ac (g := ae) (o := .cells #[.int .i64 yj,.slice yK yg.length yE,.int .i64 ym,.int .i64 yn] 29 (0,0)) (kk aa) k_ Cm)))) (yF (bO HB)));replace aa := bB aa hb;replace HB := bS HB hb;clear hb;clear ho0;clear ho1) | ((with_reducible refine yG (N := 8) rfl ?_);refine yD rfl (N := 8) rfl (cs := #[.int .i64 0,.slice none 0 0,.int .i64 0,.int .i64 0,.slice none 0 0,.int .i64 0,.int .i64 0]) (t := 65) (by go_simp) ?_;intro Dg hg w29 yI hb;have Ai := yf.mk (yI);have Q5 := bG (w := w) hg;have Q4 := bG (w := w) hg;have ai := Cq aa hg;have aj := Aq aa hg;replace ag := yf.mk (Kd.zw (Kd.zD (kV ag) Dg (Nat.le_of_eq hg.symm)) hb);replace ah := yf.mk (Kd.zw (Kd.zD (kV ah) Dg (Nat.le_of_eq hg.symm)) hb);replace aa := bB aa hb;replace HB := bS HB hb;clear hb yI hg;have OI := aj.out;have OJ := ai.out;have JI := Fy Ai;have JK := bf Ai;obtain ⟨Gv,G9,Nt⟩ := Kd.Ay ag.out;subst Nt;obtain ⟨GJ,Ga,Sv⟩ := Kd.Ay ah.out;subst Sv;have NA := AO aa;have NG := bf aa) | ((with_reducible refine yz (f := 29) rfl ?_);refine gL (some 31) Tryz.func29 #[.agg #[.int .i64 t212,.slice Gv t213.length G9,.int .i64 ak,.int .i64 au,.slice GJ t218.length Ga,.int .i64 av,.int .i64 t222],.int .i64 a2] ?_;(with_reducible refine (zR.calls k t212 _ _ t213 ak au _ _ t218 av t222 a2 XO _ ?yB ?yC ?zI ?zJ Vt.out).mono ?_);(case yB => refine (Kd.zH (e := 37) (base := w.heap.size) (ok := fun k_ => (k_ ≠ ae ∧ k_ ≠ Dg)) (n := t213.length) (c := G9) ?_).2.2;exact (by (with_reducible repeat (apply Kd.zu));exact (Kd.yL (EB (g := Dg) (Kd.yL ag.out (fun k_ hk => (⟨hk,hk.2⟩ : _ ∧ k_ ≠ Dg))) (fun _ hk => hk.2)) (fun _ h_ => h_.1))));(case yC => exact (Kd.zH ag.out).2.1);(case zI => refine (Kd.zH (e := 60) (base := w.heap.size) (ok := fun k_ => (k_ ≠ ae ∧ k_ ≠ Dg)) (n := t218.length) (c := Ga) ?_).2.2;exact (by (with_reducible repeat (apply Kd.zu));exact (Kd.yL (EB (g := Dg) (Kd.yL ah.out (fun k_ hk => (⟨hk,hk.2⟩ : _ ∧ k_ ≠ Dg))) (fun _ hk => hk.2)) (fun _ h_ => h_.1))));(case zJ => exact (Kd.zH ah.out).2.1);rintro e w35 ⟨v226,rfl,ho0,hb⟩;refine ⟨_,rfl,?_⟩;replace ag := yf.mk (Kd.CO (by (with_reducible repeat (apply Kd.zu));exact (Kd.yL (EB (g := Dg) (Kd.yL ag.out (fun k_ hk => (⟨hk,hk.2⟩ : _ ∧ k_ ≠ Dg))) (fun _ hk => hk.2)) (fun _ h_ => h_.1))) (Kd.Ba ho0) hb);replace ah := yf.mk (Kd.CO (by (with_reducible repeat (apply Kd.zu));exact (Kd.yL (EB (g := Dg) (Kd.yL ah.out (fun k_ hk => (⟨hk,hk.2⟩ : _ ∧ k_ ≠ Dg))) (fun _ hk => hk.2)) (fun _ h_ => h_.1))) (Kd.Ba ho0) hb);have ay := yf.mk (Kd.AC ho0 (yF (bO HB)));replace aa := yf.mk (yZ (g := ae) (o := .cells #[.int .i64 yj,.slice yK yg.length yE,.int .i64 ym,.int .i64 yn] 29 (0,0)) (CY aa rfl) hb);replace Ai := yf.mk (yZ (g := Dg) (o := .cells #[.int .i64 t212,.slice Gv t213.length G9,.int .i64 ak,.int .i64 au,.slice GJ t218.length Ga,.int .i64 av,.int .i64 t222] 65 (0,0)) (CY Ai rfl) hb);replace HB := bS HB hb;clear hb;clear ho0))
 go_ret2
 exact ⟨_,by rfl,by (with_reducible repeat (apply Kd.zg));exact ay.out,bO HB⟩
def zF.l0 : Nat → List Int → List Int → Int → Option (Bool)
 | 0,_,_,_ => none
 | k + 1,x0,x1,x5 => if x5 < (x0.length : Int) then (if 0 ≤ x5 then (if x5 < (x1.length : Int) then (if (rd x0 x5) = (rd x1 x5) then (zF.l0 k x0 x1 (wrap64 (x5 + 1))) else (some false)) else (none)) else (none)) else (some true)
def zF.f (k : Nat) (l0 : List Int) (l1 : List Int) : Option (Bool) := if (l0.length : Int) = (l1.length : Int) then (zF.l0 k l0 l1 0) else (some false)
set_option maxHeartbeats 8000000 in
set_option maxRecDepth 100000 in
theorem zF.calls (k : Nat) (A0 : Option Addr) (c0 : Nat) (l0 : List Int) (A1 : Option Addr) (c1 : Nat) (l1 : List Int) (r : Bool) (w : World) (hr0 : Kd.C (Kd.int .i64) w A0 l0.length l0) (hc0 : l0.length ≤ c0) (hr1 : Kd.C (Kd.int .i64) w A1 l1.length l1) (hc1 : l1.length ≤ c1) (h : zF.f k l0 l1 = some r) :
  Calls Tryz.prog 11 #[.slice A0 l0.length c0,.slice A1 l1.length c1] w fun e w' => e = .returned (.bool r) ∧ zZ w w' := by
 have MS := yf.mk hr0;have Yy := yf.mk hc0;clear hr0 hc0;have HR1 := yf.mk hr1;have Gt := yf.mk hc1;clear hr1 hc1
 have H : (if (l0.length : Int) = (l1.length : Int) then (zF.l0 k l0 l1 0) else (some false)) = some r := h
 clear h
 by_cases c3 : (l0.length : Int) = (l1.length : Int)
 rotate_left
 ·
  rw [if_neg c3] at H;have Gz := beq_eq_false_iff_ne.mpr c3;have Nh := bne_iff_ne.mpr c3
  have YP : (l0.length == l1.length) = false := by (simp at c3 ⊢;omega)
  obtain rfl := Option.some.inj H
  go_enter Tryz.func11,Tryz.ntmps11
  go_wp2
  repeat (go_quiet (fail);try go_wp2)
  go_ret
  exact ⟨by rfl,by repeat (exact zZ.refl _)⟩
 rw [if_pos c3] at H;have Gz := beq_iff_eq.mpr c3
 have Nh : ((l0.length : Int) != (l1.length : Int)) = false := bne_eq_false_iff_eq.mpr c3
 have YP : (l0.length == l1.length) = true := by (simp at c3 ⊢;omega)
 clear c3;have H' := yf.mk H;clear H
 go_enter Tryz.func11,Tryz.ntmps11
 go_wp2
 repeat (go_quiet (fail);try go_wp2)
 go_loopg [5] k (fun kq v5 w' => ∃ (yP : Int),v5 = .int .i64 yP ∧ yf (zF.l0 kq l0 l1 yP = some r) ∧ yf (kq ≤ k) ∧ zZ w w')
 case atStart => exact ⟨(0),(by rfl),H',⟨Nat.le_refl _⟩,by repeat (exact zZ.refl _)⟩
 case round =>
 clear H' Gz Nh YP;obtain ⟨yP,rfl,HA,Bn,⟨m1,rfl⟩⟩ := hrel
 cases gk with
 | zero => exact absurd HA.out (by simp [zF.l0])
 | succ k1 =>
 have H := HA.out;clear HA;simp only [zF.l0] at H
 by_cases c4 : yP < (l0.length : Int)
 rotate_left
 ·
  rw [if_neg c4] at H;have ER := decide_eq_false c4;clear c4;obtain rfl := Option.some.inj H
  go_wp2
  repeat (go_quiet (fail);try go_wp2)
  go_ret
  exact ⟨by rfl,by repeat (first | exact zZ.refl _ | apply zZ.step)⟩
 rw [if_pos c4] at H;have ER := decide_eq_true c4;clear c4
 by_cases c5 : 0 ≤ yP
 rotate_left
 ·
  rw [if_neg c5] at H;exact absurd H (by simp)
 rw [if_pos c5] at H;have ES := decide_eq_true c5;clear c5
 by_cases c6 : yP < (l1.length : Int)
 rotate_left
 ·
  rw [if_neg c6] at H;exact absurd H (by simp)
 rw [if_pos c6] at H;have Eu := decide_eq_true c6;clear c6
 by_cases c7 : (rd l0 yP) = (rd l1 yP)
 ·
  rw [if_pos c7] at H;have GL := beq_iff_eq.mpr c7
  have O7 : ((rd l0 yP) != (rd l1 yP)) = false := bne_eq_false_iff_eq.mpr c7
  clear c7;have H' := yf.mk H;clear H
  have aa : 0 ≤ (yP : Int) := of_decide_eq_true ‹_›
  have ae : yP < (l0.length : Int) := of_decide_eq_true ‹_›
  obtain ⟨af,e228,ag⟩ := Kd.BG MS.out yP aa ae;cases e228;replace aa := eq_true aa;replace ae := eq_true ae
  have Jz : 0 ≤ (yP : Int) := of_decide_eq_true ‹_›
  have JA : yP < (l1.length : Int) := of_decide_eq_true ‹_›
  obtain ⟨FU,e229,H9⟩ := Kd.BG HR1.out yP Jz JA;cases e229;replace Jz := eq_true Jz;replace JA := eq_true JA
  go_wp2
  repeat (go_quiet (fail);try go_wp2)
  go_roundg k1
  case measure => have := Bn.out;omega
  case rel => exact ⟨(wrap64 (yP + 1)),(by rfl),H',⟨by have := Bn.out;omega⟩,by repeat (first | exact zZ.refl _ | apply zZ.step)⟩
 rw [if_neg c7] at H;have GL := beq_eq_false_iff_ne.mpr c7;have O7 := bne_iff_ne.mpr c7;obtain rfl := Option.some.inj H
 have aa : 0 ≤ (yP : Int) := of_decide_eq_true ‹_›
 have ae : yP < (l0.length : Int) := of_decide_eq_true ‹_›
 obtain ⟨af,e228,ag⟩ := Kd.BG MS.out yP aa ae;cases e228;replace aa := eq_true aa;replace ae := eq_true ae
 have Jz : 0 ≤ (yP : Int) := of_decide_eq_true ‹_›
 have JA : yP < (l1.length : Int) := of_decide_eq_true ‹_›
 obtain ⟨FU,e229,H9⟩ := Kd.BG HR1.out yP Jz JA;cases e229;replace Jz := eq_true Jz;replace JA := eq_true JA
 go_wp2
 repeat (go_quiet (fail);try go_wp2)
 go_ret
 exact ⟨by rfl,by repeat (first | exact zZ.refl _ | apply zZ.step)⟩
end Go.Proofs.YtjonnfmoocijlaaGreat.P
