/- Texts of a claim, packed. -/
import Derived.Test.YtjonnfmoocijlaaGreatE41
import Derived.Test.YtjonnfmoocijlaaGreatE45
import Derived.Test.YtjonnfmoocijlaaGreatE47
set_option linter.all false
namespace Go.Proofs.YtjonnfmoocijlaaGreat.P
open Go.RowKit Go.Proofs.YtjonnfmoocijlaaGreatKW.PrintWords Go.Proofs.YtjonnfmoocijlaaGreatKW.PrintLast Go.Proofs.YtjonnfmoocijlaaGreatKW.PrintMore
attribute [local go_sem] zN zP Af Ag zz zA zO zQ
mutual
def yQ.j0 : Nat → Int → List (AP) → List (Ff) → Int → List Int → Int → Bool → Int → List (List Int) → Int → Int → Option (Bool)
 | 0,_,_,_,_,_,_,_,_,_,_,_ => none
 | k + 1,x2,x8,x9,EU,DX,F5,x47,aa,ae,af,ag => if x47 = true then (if EU = 2 then (if F5 = 2 then (if (x9.length : Int) = 0 then (if (DX.length : Int) = 0 then (some true) else (none)) else (none)) else (none)) else (none)) else ((zW.f k aa ae af ag x8 x2).bind fun Gs => (if EU = 0 then (if F5 = 0 then (if (x9.length : Int) = (Gs.length : Int) then ((zx.f k aa ae af ag x8 x2).bind fun Vm => ((zF.f k DX Vm).bind fun Zw => (yQ.j1 k x9 Gs (!Zw)))) else (yQ.j1 k x9 Gs true)) else (yQ.j1 k x9 Gs true)) else (yQ.j1 k x9 Gs true)))
def yQ.j1 : Nat → List (Ff) → List (KX) → Bool → Option (Bool)
 | 0,_,_,_ => none
 | k + 1,x9,G8,x89 => if x89 = true then (none) else (yQ.l0 k x9 G8 0)
def yQ.l0 : Nat → List (Ff) → List (KX) → Int → Option (Bool)
 | 0,_,_,_ => none
 | k + 1,x9,G8,IQ => if IQ < (x9.length : Int) then (if 0 ≤ IQ then (if IQ < (G8.length : Int) then (if ((BC x9 IQ).f0) = ((Hq G8 IQ).f0) then (if ((BC x9 IQ).f1) = ((Hq G8 IQ).f1) then (yQ.l0 k x9 G8 (wrap64 (IQ + 1))) else (none)) else (none)) else (none)) else (none)) else (some true)
end
def yQ.f (k : Nat) (a0 : Int) (l1 : List Int) (a2 : Int) : Option (Bool) := (AL.f k).bind fun Y6 => (if Y6 = true then (if (l1.length : Int) > 20 then (some true) else ((zC.f k a0).bind fun CF => ((yN.f k CF.1 CF.2.1 CF.2.2.1 CF.2.2.2 l1).bind fun GX => ((zX.f k CF.1 CF.2.1 CF.2.2.1 CF.2.2.2 GX a2).bind fun Kg => ((D6.f k CF.1 CF.2.1 CF.2.2.1 CF.2.2.2 GX a2).bind fun Kh => (if a2 < 0 then (yQ.j0 k a2 GX Kg.1 Kg.2 Kh.1 Kh.2 true CF.1 CF.2.1 CF.2.2.1 CF.2.2.2) else (yQ.j0 k a2 GX Kg.1 Kg.2 Kh.1 Kh.2 (decide (a2 ≥ CF.1)) CF.1 CF.2.1 CF.2.2.1 CF.2.2.2))))))) else (none))
set_option maxHeartbeats 8000000 in
set_option maxRecDepth 100000 in
theorem yQ.calls (k : Nat) (a0 : Int) (A1 : Option Addr) (c1 : Nat) (l1 : List Int) (a2 : Int) (r : Bool) (w : World) (hr1 : Kd.C (Kd.int .u8) w A1 l1.length l1) (hc1 : l1.length ≤ c1) (h : yQ.f k a0 l1 a2 = some r) :
  Calls Tryz.prog 3 #[.int .u16 a0,.slice A1 l1.length c1,.int .i64 a2] w fun e w' => e = .returned (.bool r) ∧ Below w.heap.size w w' := by
 have ET := Tryz.underlying29;have HR1 := yf.mk hr1;have Gt := yf.mk hc1;clear hr1 hc1;have HB := yf.mk (Below.refl w.heap.size w)
 have H : ((AL.f k).bind fun Y6 => (if Y6 = true then (if (l1.length : Int) > 20 then (some true) else ((zC.f k a0).bind fun CF => ((yN.f k CF.1 CF.2.1 CF.2.2.1 CF.2.2.2 l1).bind fun GX => ((zX.f k CF.1 CF.2.1 CF.2.2.1 CF.2.2.2 GX a2).bind fun Kg => ((D6.f k CF.1 CF.2.1 CF.2.2.1 CF.2.2.2 GX a2).bind fun Kh => (if a2 < 0 then (yQ.j0 k a2 GX Kg.1 Kg.2 Kh.1 Kh.2 true CF.1 CF.2.1 CF.2.2.1 CF.2.2.2) else (yQ.j0 k a2 GX Kg.1 Kg.2 Kh.1 Kh.2 (decide (a2 ≥ CF.1)) CF.1 CF.2.1 CF.2.2.1 CF.2.2.2))))))) else (none))) = some r := h
 clear h;obtain ⟨Y6,A4,H⟩ := bE H
 try dsimp only at H
 by_cases c5 : Y6 = true
 rotate_left
 ·
  replace c5 := Bool.eq_false_iff.mpr c5;subst c5
  rw [if_neg (show ¬ (false = true) by decide)] at H
  exact absurd H (by simp)
 subst c5;rw [if_pos rfl] at H
 by_cases c6 : (l1.length : Int) > 20
 ·
  rw [if_pos c6] at H;have Eu := decide_eq_true c6
  have Ml : decide (20 < l1.length) = true := decide_eq_true (by omega)
  clear c6;obtain rfl := Option.some.inj H
  go_enter Tryz.func3,Tryz.ntmps3
  go_wp2_with ((go_at_call 5;(with_reducible refine (AL.calls k  true _ A4.out).mono ?_);rintro e w7 ⟨rfl,hb⟩;replace HB := bS HB hb;clear hb))
  repeat (go_quiet ((go_at_call 5;(with_reducible refine (AL.calls k  true _ A4.out).mono ?_);rintro e w7 ⟨rfl,hb⟩;replace HB := bS HB hb));try go_wp2_with ((go_at_call 5;(with_reducible refine (AL.calls k  true _ A4.out).mono ?_);rintro e w7 ⟨rfl,hb⟩;replace HB := bS HB hb)))
  go_ret
  exact ⟨by rfl,bO HB⟩
 rw [if_neg c6] at H;have Eu := decide_eq_false c6
 have Ml : decide (20 < l1.length) = false := decide_eq_false (by omega)
 clear c6;obtain ⟨⟨aj,ag,ak,au⟩,A8,H⟩ := bE H
 try dsimp only at H
 obtain ⟨GX,A9,H⟩ := bE H
 try dsimp only at H
 obtain ⟨⟨ah,aG⟩,A10,H⟩ := bE H
 try dsimp only at H
 obtain ⟨⟨aH,aI⟩,Yp,H⟩ := bE H
 try dsimp only at H
 have aN := yf.mk H;clear H
 go_enter Tryz.func3,Tryz.ntmps3
 go_upto_region 9 with (first | (go_at_call 5;(with_reducible refine (AL.calls k  true _ A4.out).mono ?_);rintro e w13 ⟨rfl,hb⟩;replace HB := bS HB hb;clear hb) | (go_at_call 6;(with_reducible refine (zC.calls k a0 aj ag ak au _ A8.out).mono ?_);rintro e w14 ⟨v663,rfl,ho0,hb⟩;have ai := yf.mk (Kd.FO ho0 (yF (bO HB)));replace HB := bS HB hb;clear hb;clear ho0) | ((with_reducible refine yG (N := 7) rfl ?_);(try (refine AX (by rfl) ?_;dsimp only));refine yD rfl (N := 7) rfl (cs := #[.int .i64 0,.slice none 0 0,.int .i64 0,.int .i64 0]) (t := 29) (by go_simp) ?_;intro aD hg w15 yI hb;replace ai := Lj ai hb;have aa := yf.mk (yI);have bQ := bG (w := w) hg;have bP := bG (w := w) hg;replace HB := bS HB hb;clear hb yI hg;have IA := AO aa;have IE := bf aa;obtain ⟨IU,IK,Wv⟩ := Kd.EM ai.out;subst Wv) | (go_at_call 7;(with_reducible refine (yN.calls k aj _ _ ag ak au _ _ l1 GX _ ?yB ?yC ?zI ?zJ A9.out).mono ?_);(case yB => refine (Kd.Cb (e := 37) (base := w.heap.size) (ok := fun k_ => True) (n := ag.length) (c := IK) ?_).2.2;exact (by (with_reducible repeat (apply Kd.Be));exact (Kd.BI (MG (g := aD) (Kd.C8 ai.out aa.out (by decide)) (fun _ hk => hk.2)) (fun _ h_ => h_.1))));(case yC => exact (Kd.Cb ai.out).2.1);(case zI => exact Kd.CE HR1.out (bO HB));(case zJ => exact Gt.out);rintro e w18 ⟨v669,rfl,ho0,hb⟩;replace ai := yf.mk (Kd.Fj (by (with_reducible repeat (apply Kd.Be));exact (Kd.BI (MG (g := aD) (Kd.C8 ai.out aa.out (by decide)) (fun _ hk => hk.2)) (fun _ h_ => h_.1))) hb);have ax := yf.mk (Kd.AC ho0 (yF (bO HB)));replace aa := yf.mk (yZ (g := aD) (o := .cells #[.int .i64 aj,.slice IU ag.length IK,.int .i64 ak,.int .i64 au] 29 (0,0)) (CY aa rfl) hb);replace HB := bS HB hb;clear hb;clear ho0;have TJ := AO aa;have TQ := bf aa;obtain ⟨MM,La,Sr⟩ := Kd.zB ax.out;subst Sr) | (go_at_call 8;(with_reducible refine (zX.calls k aj _ _ ag ak au _ _ GX a2 ah aG _ ?yB ?yC ?zI ?zJ A10.out).mono ?_);(case yB => exact QV ai);(case yC => exact (Kd.Cb ai.out).2.1);(case zI => exact Jq ax);(case zJ => exact (Kd.zb ax.out).2.1);rintro e w21 ⟨v672,rfl,ho0,hb⟩;replace ai := Lj ai hb;replace ax := CR ax hb;have aJ := yf.mk (Kd.AC ho0 (yF (bO HB)));replace aa := bB aa hb;replace HB := bS HB hb;clear hb;clear ho0;have LQ := AO aa;have LW := bf aa) | (go_at_call 9;(with_reducible refine (D6.calls k aj _ _ ag ak au _ _ GX a2 aH aI _ ?yB ?yC ?zI ?zJ Yp.out).mono ?_);(case yB => exact QV ai);(case yC => exact (Kd.Cb ai.out).2.1);(case zI => exact Jq ax);(case zJ => exact (Kd.zb ax.out).2.1);rintro e w23 ⟨v676,rfl,ho0,hb⟩;replace ai := yf.mk (Kd.Gw (kS ai) (Kd.Ba ho0) hb);replace ax := CR ax hb;replace aJ := CR aJ hb;have bn := yf.mk (Kd.AC ho0 (yF (bO HB)));replace aa := bB aa hb;replace HB := bS HB hb;clear hb;clear ho0))
 repeat (go_quiet ((go_at_call 5;(with_reducible refine (AL.calls k  true _ A4.out).mono ?_);rintro e w13 ⟨rfl,hb⟩;replace HB := bS HB hb));go_upto_region 9 with ((go_at_call 5;(with_reducible refine (AL.calls k  true _ A4.out).mono ?_);rintro e w13 ⟨rfl,hb⟩;replace HB := bS HB hb)))
 (try simp only [pz])
 go_cut [47] (fun v47 wc => ∃ (kq : Nat) (aK : Bool),v47 = .bool aK ∧ yf (yQ.j0 kq a2 GX ah aG aH aI aK aj ag ak au = some r) ∧ yf (kq ≤ k) ∧ yf (Kd.R DN 60 wc w.heap.size (fun _ => True) (.slice MM GX.length La) GX) ∧ yf (Kd.R NJ 45 wc w.heap.size (fun _ => True) v672 ah) ∧ yf (Kd.R (Kd.int .i64) 3 wc w.heap.size (fun _ => True) v676 aH) ∧ yf (Kd.S (Kd.slice 3 (Kd.int .i64)) 37 wc w.heap.size (fun k_ => some k_ ≠ (v676 : Value).ownBlock) (.slice IU ag.length IK) ag) ∧ yf (wc.heap[aD]? = some (.cells #[.int .i64 aj,(.slice IU ag.length IK),.int .i64 ak,.int .i64 au] 29 (0,0))) ∧ yf (Below w.heap.size w wc))
 case first =>
  have H := aN.out;clear aN
  by_cases c24 : a2 < 0
  ·
   rw [if_pos c24] at H;have Kj := decide_eq_true c24;clear c24
   (skip)
   have H' := yf.mk H;clear H
   go_wp2
   repeat (go_quiet (fail);try go_wp2)
   go_meet
   case rel => exact ⟨_,(true),(by rfl),H',⟨by omega⟩,⟨kR ax⟩,⟨kR aJ⟩,⟨kR bn⟩,⟨by (with_reducible repeat (apply Kd.Be));exact Kd.BI ai.out (fun _ hk => hk.2)⟩,⟨kk aa⟩,⟨bO HB⟩⟩
  rw [if_neg c24] at H;have Kj := decide_eq_false c24;clear c24
  (skip)
  have H' := yf.mk H;clear H;have LU := AO aa;have LX := bf aa
  go_wp2
  repeat (go_quiet (fail);try go_wp2)
  go_meet
  case rel => exact ⟨_,(decide (a2 ≥ aj)),(by rfl),H',⟨by omega⟩,⟨kR ax⟩,⟨kR aJ⟩,⟨kR bn⟩,⟨by (with_reducible repeat (apply Kd.Be));exact Kd.BI ai.out (fun _ hk => hk.2)⟩,⟨kk aa⟩,⟨bO HB⟩⟩
 case rest =>
 clear aN Eu Ml IA TJ LQ IE TQ LW;obtain ⟨kq,aK,rfl,HA,aA,Ci,Dj,Bc,ae,aa,HB⟩ := hcut
 cases kq with
 | zero => exact absurd HA.out (by simp [yQ.j0])
 | succ ay =>
  have H := HA.out;clear HA;simp only [yQ.j0] at H
  by_cases K7 : aK = true
  ·
   subst K7;rw [if_pos rfl] at H
   by_cases Pp : aG = 2
   ·
    rw [if_pos Pp] at H;have Tz := beq_iff_eq.mpr Pp
    have bR : (aG != 2) = false := bne_eq_false_iff_eq.mpr Pp
    clear Pp
    by_cases c28 : aI = 2
    ·
     rw [if_pos c28] at H;have Ng := beq_iff_eq.mpr c28
     have Ov : (aI != 2) = false := bne_eq_false_iff_eq.mpr c28
     clear c28
     by_cases L6 : (ah.length : Int) = 0
     ·
      rw [if_pos L6] at H;have Ow := beq_iff_eq.mpr L6
      have ZR : ((ah.length : Int) != 0) = false := bne_eq_false_iff_eq.mpr L6
      clear L6
      by_cases O6 : (aH.length : Int) = 0
      ·
       rw [if_pos O6] at H;have VR := beq_iff_eq.mpr O6
       have a3z : ((aH.length : Int) != 0) = false := bne_eq_false_iff_eq.mpr O6
       clear O6;obtain rfl := Option.some.inj H;obtain ⟨Yr,YT,Wy⟩ := Kd.zB Dj.out;subst Wy;obtain ⟨Gv,G9,Nt⟩ := Kd.zB Bc.out;subst Nt
       go_wp2
       repeat (go_quiet (fail);try go_wp2)
       go_ret
       exact ⟨by rfl,bO HB⟩
      ·
       rw [if_neg O6] at H;exact absurd H (by simp)
     ·
      rw [if_neg L6] at H;exact absurd H (by simp)
    ·
     rw [if_neg c28] at H;exact absurd H (by simp)
   ·
    rw [if_neg Pp] at H;exact absurd H (by simp)
  ·
   replace K7 := Bool.eq_false_iff.mpr K7;subst K7
   rw [if_neg (show ¬ (false = true) by decide)] at H
   obtain ⟨Gs,A33,H⟩ := bE H
   try dsimp only at H
   have aQ := yf.mk H;clear H;have Ku := AO aa;have KC := bf aa
   go_upto_region 12 with ((go_at_call 10;(with_reducible refine (zW.calls ay aj _ _ ag ak au _ _ GX a2 Gs _ ?yB ?yC ?zI ?zJ A33.out).mono ?_);(case yB => exact QV ae);(case yC => exact (Kd.Cb ae.out).2.1);(case zI => exact Jq Ci);(case zJ => exact (Kd.zb Ci.out).2.1);rintro e w36 ⟨v680,rfl,ho0,hb⟩;replace Ci := CR Ci hb;replace Dj := CR Dj hb;replace Bc := CR Bc hb;replace ae := Lj ae hb;have av := yf.mk (Kd.AC ho0 (yF (bO HB)));replace aa := bB aa hb;replace HB := bS HB hb;clear hb;clear ho0))
   repeat (go_quiet ((go_at_call 10;(with_reducible refine (zW.calls ay aj _ _ ag ak au _ _ GX a2 Gs _ ?yB ?yC ?zI ?zJ A33.out).mono ?_);(case yB => exact QV ae);(case yC => exact (Kd.Cb ae.out).2.1);(case zI => exact Jq Ci);(case zJ => exact (Kd.zb Ci.out).2.1);rintro e w36 ⟨v680,rfl,ho0,hb⟩;replace Ci := CR Ci hb;replace Dj := CR Dj hb;replace Bc := CR Bc hb;replace ae := Lj ae hb;have av := yf.mk (Kd.AC ho0 (yF (bO HB)));replace aa := bB aa hb;replace HB := bS HB hb));go_upto_region 12 with ((go_at_call 10;(with_reducible refine (zW.calls ay aj _ _ ag ak au _ _ GX a2 Gs _ ?yB ?yC ?zI ?zJ A33.out).mono ?_);(case yB => exact QV ae);(case yC => exact (Kd.Cb ae.out).2.1);(case zI => exact Jq Ci);(case zJ => exact (Kd.zb Ci.out).2.1);rintro e w36 ⟨v680,rfl,ho0,hb⟩;replace Ci := CR Ci hb;replace Dj := CR Dj hb;replace Bc := CR Bc hb;replace ae := Lj ae hb;have av := yf.mk (Kd.AC ho0 (yF (bO HB)));replace aa := bB aa hb;replace HB := bS HB hb)))
   (try simp only [pz])
   go_cut [89] (fun v89 wc => ∃ (kq : Nat) (aM : Bool),v89 = .bool aM ∧ yf (yQ.j1 kq ah Gs aM = some r) ∧ yf (kq ≤ ay) ∧ yf (Kd.R NJ 45 wc w.heap.size (fun _ => True) v672 ah) ∧ yf (Kd.R Zd 46 wc w.heap.size (fun _ => True) v680 Gs) ∧ yf (Kd.S (Kd.slice 3 (Kd.int .i64)) 37 wc w.heap.size (fun _ => True) (.slice IU ag.length IK) ag) ∧ yf (wc.heap[aD]? = some (.cells #[.int .i64 aj,(.slice IU ag.length IK),.int .i64 ak,.int .i64 au] 29 (0,0))) ∧ yf (Below w.heap.size w wc))
   case first =>
    have H := aQ.out;clear aQ
    by_cases c37 : aG = 0
    ·
     rw [if_pos c37] at H;have Kk := beq_iff_eq.mpr c37
     have VV : (aG != 0) = false := bne_eq_false_iff_eq.mpr c37
     clear c37
     (skip)
     by_cases Gq : aI = 0
     ·
      rw [if_pos Gq] at H;have J4 := beq_iff_eq.mpr Gq
      have VW : (aI != 0) = false := bne_eq_false_iff_eq.mpr Gq
      clear Gq
      by_cases Il : (ah.length : Int) = (Gs.length : Int)
      ·
       rw [if_pos Il] at H;have LG := beq_iff_eq.mpr Il
       have VX : ((ah.length : Int) != (Gs.length : Int)) = false := bne_eq_false_iff_eq.mpr Il
       have bF : (ah.length == Gs.length) = true := by (simp at Il ⊢;omega)
       clear Il;obtain ⟨Vm,A40,H⟩ := bE H
       try dsimp only at H
       obtain ⟨Zw,bu,H⟩ := bE H
       try dsimp only at H
       have H' := yf.mk H;clear H;obtain ⟨a5A,a5S,a1T⟩ := Kd.zB Dj.out;subst a1T;obtain ⟨RD,Px,Sw⟩ := Kd.zB av.out;subst Sw;have QB := AO aa;have QH := bf aa
       go_wp2_with (first | (go_at_call 12;(with_reducible refine (zx.calls ay aj _ _ ag ak au _ _ GX a2 Vm _ ?yB ?yC ?zI ?zJ A40.out).mono ?_);(case yB => exact QV ae);(case yC => exact (Kd.Cb ae.out).2.1);(case zI => exact Jq Ci);(case zJ => exact (Kd.zb Ci.out).2.1);rintro e w45 ⟨v683,rfl,ho0,hb⟩;have az := yf.mk (Kd.AC (Kd.CV ho0 (Kd.EL (kR Bc))) (yF (bO HB)));replace Ci := CR Ci hb;replace Dj := CR Dj hb;replace Bc := yf.mk (Kd.Bu (kR Bc) (Kd.Ba ho0) hb);replace ae := yf.mk (Kd.Gw (kS ae) (Kd.Ba ho0) hb);replace av := CR av hb;replace aa := bB aa hb;replace HB := bS HB hb;clear hb;clear ho0;obtain ⟨Yu,YU,Sy⟩ := Kd.zB Bc.out;subst Sy;obtain ⟨Vv,Wn,Sz⟩ := Kd.zB az.out;subst Sz) | (go_at_call 11;(with_reducible refine (zF.calls ay _ _ aH _ _ Vm Zw _ ?yB ?yC ?zI ?zJ bu.out).mono ?_);(case yB => exact Jq Bc);(case yC => exact (Kd.zb Bc.out).2.1);(case zI => exact Jq az);(case zJ => exact (Kd.zb az.out).2.1);rintro e w' ⟨rfl,⟨nd,rfl⟩⟩;(try exact ⟨rfl,_,World.drewN_drewN _ _ _⟩)))
       repeat (go_quiet ((go_at_call 12;(with_reducible refine (zx.calls ay aj _ _ ag ak au _ _ GX a2 Vm _ ?yB ?yC ?zI ?zJ A40.out).mono ?_);(case yB => exact QV ae);(case yC => exact (Kd.Cb ae.out).2.1);(case zI => exact Jq Ci);(case zJ => exact (Kd.zb Ci.out).2.1);rintro e w45 ⟨v683,rfl,ho0,hb⟩;have az := yf.mk (Kd.AC (Kd.CV ho0 (Kd.EL (kR Bc))) (yF (bO HB)));replace Ci := CR Ci hb;replace Dj := CR Dj hb;replace Bc := yf.mk (Kd.Bu (kR Bc) (Kd.Ba ho0) hb);replace ae := yf.mk (Kd.Gw (kS ae) (Kd.Ba ho0) hb);replace av := CR av hb;replace aa := bB aa hb;replace HB := bS HB hb;obtain ⟨Yu,YU,Sy⟩ := Kd.zB Bc.out;subst Sy;obtain ⟨Vv,Wn,Sz⟩ := Kd.zB az.out;subst Sz));try go_wp2_with ((go_at_call 12;(with_reducible refine (zx.calls ay aj _ _ ag ak au _ _ GX a2 Vm _ ?yB ?yC ?zI ?zJ A40.out).mono ?_);(case yB => exact QV ae);(case yC => exact (Kd.Cb ae.out).2.1);(case zI => exact Jq Ci);(case zJ => exact (Kd.zb Ci.out).2.1);rintro e w45 ⟨v683,rfl,ho0,hb⟩;have az := yf.mk (Kd.AC (Kd.CV ho0 (Kd.EL (kR Bc))) (yF (bO HB)));replace Ci := CR Ci hb;replace Dj := CR Dj hb;replace Bc := yf.mk (Kd.Bu (kR Bc) (Kd.Ba ho0) hb);replace ae := yf.mk (Kd.Gw (kS ae) (Kd.Ba ho0) hb);replace av := CR av hb;replace aa := bB aa hb;replace HB := bS HB hb;obtain ⟨Yu,YU,Sy⟩ := Kd.zB Bc.out;subst Sy;obtain ⟨Vv,Wn,Sz⟩ := Kd.zB az.out;subst Sz)))
       go_meet
       case rel => exact ⟨_,(!Zw),(by rfl),H',⟨by have := aA.out;omega⟩,⟨kR Dj⟩,⟨kR av⟩,⟨by (with_reducible repeat (apply Kd.YD));exact Kd.BI ae.out (fun _ hk => trivial)⟩,⟨kk aa⟩,⟨bO HB⟩⟩
      ·
       rw [if_neg Il] at H;have LG := beq_eq_false_iff_ne.mpr Il;have VX := bne_iff_ne.mpr Il
       have bF : (ah.length == Gs.length) = false := by (simp at Il ⊢;omega)
       have H' := yf.mk H;clear H;obtain ⟨a3j,a3E,WB⟩ := Kd.zB Dj.out;subst WB;obtain ⟨a1f,a1K,SA⟩ := Kd.zB av.out;subst SA
       go_wp2
       repeat (go_quiet (fail);try go_wp2)
       go_meet
       case rel => exact ⟨_,(true),(by rfl),H',⟨by have := aA.out;omega⟩,⟨kR Dj⟩,⟨kR av⟩,⟨by (with_reducible repeat (apply Kd.Be));exact Kd.BI ae.out (fun _ hk => trivial)⟩,⟨kk aa⟩,⟨bO HB⟩⟩
     ·
      rw [if_neg Gq] at H;have J4 := beq_eq_false_iff_ne.mpr Gq;have VW := bne_iff_ne.mpr Gq;have H' := yf.mk H;clear H
      go_wp2
      repeat (go_quiet (fail);try go_wp2)
      go_meet
      case rel => exact ⟨_,(true),(by rfl),H',⟨by have := aA.out;omega⟩,⟨kR Dj⟩,⟨kR av⟩,⟨by (with_reducible repeat (apply Kd.Be));exact Kd.BI ae.out (fun _ hk => trivial)⟩,⟨kk aa⟩,⟨bO HB⟩⟩
    ·
     rw [if_neg c37] at H;have Kk := beq_eq_false_iff_ne.mpr c37;have VV := bne_iff_ne.mpr c37
     (skip)
     have H' := yf.mk H;clear H
     go_wp2
     repeat (go_quiet (fail);try go_wp2)
     go_meet
     case rel => exact ⟨_,(true),(by rfl),H',⟨by have := aA.out;omega⟩,⟨kR Dj⟩,⟨kR av⟩,⟨by (with_reducible repeat (apply Kd.Be));exact Kd.BI ae.out (fun _ hk => trivial)⟩,⟨kk aa⟩,⟨bO HB⟩⟩
   case rest =>
    clear aQ Ku KC;obtain ⟨kq,aM,rfl,HA,bi,Dj,aC,ae,aa,HB⟩ := hcut
    cases kq with
    | zero => exact absurd HA.out (by simp [yQ.j1])
    | succ bq =>
     have H := HA.out;clear HA;simp only [yQ.j1] at H
     by_cases TE : aM = true
     ·
      subst TE;rw [if_pos rfl] at H;exact absurd H (by simp)
     ·
      replace TE := Bool.eq_false_iff.mpr TE;subst TE
      rw [if_neg (show ¬ (false = true) by decide)] at H
      have H' := yf.mk H;clear H
      go_wp2
      repeat (go_quiet (fail);try go_wp2)
      go_loopg [14] bq (fun kq v14 w' => ∃ (af : Int),v14 = .int .i64 af ∧ yf (yQ.l0 kq ah Gs af = some r) ∧ yf (kq ≤ bq) ∧ yf (Kd.R NJ 45 w' w.heap.size (fun _ => True) v672 ah) ∧ yf (Kd.R Zd 46 w' w.heap.size (fun _ => True) v680 Gs) ∧ yf (Kd.S (Kd.slice 3 (Kd.int .i64)) 37 w' w.heap.size (fun _ => True) (.slice IU ag.length IK) ag) ∧ yf (w'.heap[aD]? = some (.cells #[.int .i64 aj,(.slice IU ag.length IK),.int .i64 ak,.int .i64 au] 29 (0,0))) ∧ yf (Below w.heap.size w w'))
      case atStart => exact ⟨(0),(by rfl),H',⟨Nat.le_refl _⟩,⟨kR Dj⟩,⟨kR aC⟩,⟨kS ae⟩,⟨kk aa⟩,⟨bO HB⟩⟩
      case round =>
       clear H';obtain ⟨af,rfl,HA,Fx,Dj,aC,ae,aa,HB⟩ := hrel
       cases gk with
       | zero => exact absurd HA.out (by simp [yQ.l0])
       | succ k3 =>
        have H := HA.out;clear HA;simp only [yQ.l0] at H
        by_cases c51 : af < (ah.length : Int)
        ·
         rw [if_pos c51] at H;have TF := decide_eq_true c51;clear c51
         by_cases Rs : 0 ≤ af
         ·
          rw [if_pos Rs] at H;have TG := decide_eq_true Rs;clear Rs
          by_cases c53 : af < (Gs.length : Int)
          ·
           rw [if_pos c53] at H;have a3A := decide_eq_true c53;clear c53
           by_cases Mi : ((BC ah af).f0) = ((Hq Gs af).f0)
           ·
            rw [if_pos Mi] at H;have Qn := beq_iff_eq.mpr Mi
            have ZU : (((BC ah af).f0) != ((Hq Gs af).f0)) = false := bne_eq_false_iff_eq.mpr Mi
            clear Mi
            by_cases L8 : ((BC ah af).f1) = ((Hq Gs af).f1)
            ·
             rw [if_pos L8] at H;have VZ := beq_iff_eq.mpr L8
             have ZV : (((BC ah af).f1) != ((Hq Gs af).f1)) = false := bne_eq_false_iff_eq.mpr L8
             clear L8;have H' := yf.mk H;clear H;obtain ⟨a5D,a5W,a1Y⟩ := Kd.zB Dj.out;subst a1Y
             have aT : 0 ≤ (af : Int) := of_decide_eq_true ‹_›
             have aX : af < (ah.length : Int) := of_decide_eq_true ‹_›
             obtain ⟨bv,bH,bU,bV⟩ := JS (Kd.zb Dj.out).2.2 af aT aX;cases bH;replace aT := eq_true aT;replace aX := eq_true aX;obtain ⟨a1h,a1M,a1Z⟩ := Kd.zB aC.out;subst a1Z
             have aU : 0 ≤ (af : Int) := of_decide_eq_true ‹_›
             have aY : af < (Gs.length : Int) := of_decide_eq_true ‹_›
             obtain ⟨bA,bI,bW,bX⟩ := VG (Kd.zb aC.out).2.2 af aU aY;cases bI;replace aU := eq_true aU;replace aY := eq_true aY
             have aV : 0 ≤ (af : Int) := of_decide_eq_true ‹_›
             have aZ : af < (ah.length : Int) := of_decide_eq_true ‹_›
             obtain ⟨bC,bJ,bY,bZ⟩ := JS (Kd.zb Dj.out).2.2 af aV aZ;obtain rfl : bv = bC := (by injection bJ);replace aV := eq_true aV;replace aZ := eq_true aZ
             have aW : 0 ≤ (af : Int) := of_decide_eq_true ‹_›
             have bg : af < (Gs.length : Int) := of_decide_eq_true ‹_›
             obtain ⟨bD,bL,cu,cz⟩ := VG (Kd.zb aC.out).2.2 af aW bg;obtain rfl : bA = bD := (by injection bL);replace aW := eq_true aW;replace bg := eq_true bg
             go_wp2
             repeat (go_quiet (fail);try go_wp2)
             go_roundg k3
             case measure => have := aA.out;have := bi.out;have := Fx.out;omega
             case rel => exact ⟨(wrap64 (af + 1)),(by rfl),H',⟨by have := aA.out;have := bi.out;have := Fx.out;omega⟩,⟨kR Dj⟩,⟨kR aC⟩,⟨kS ae⟩,⟨kk aa⟩,⟨bO HB⟩⟩
            ·
             rw [if_neg L8] at H;exact absurd H (by simp)
           ·
            rw [if_neg Mi] at H;exact absurd H (by simp)
          ·
           rw [if_neg c53] at H;exact absurd H (by simp)
         ·
          rw [if_neg Rs] at H;exact absurd H (by simp)
        ·
         rw [if_neg c51] at H;have TF := decide_eq_false c51;clear c51;obtain rfl := Option.some.inj H;obtain ⟨bN,bT,bM⟩ := Kd.zB Dj.out;subst bM
         go_wp2
         repeat (go_quiet (fail);try go_wp2)
         go_ret
         exact ⟨by rfl,bO HB⟩
end Go.Proofs.YtjonnfmoocijlaaGreat.P
