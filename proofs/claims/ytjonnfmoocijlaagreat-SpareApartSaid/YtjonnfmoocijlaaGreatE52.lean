/- Texts of a claim, packed. -/
import Derived.Test.YtjonnfmoocijlaaGreatE41
import Derived.Test.YtjonnfmoocijlaaGreatE45
import Derived.Test.YtjonnfmoocijlaaGreatE51
set_option linter.all false
namespace Go.Proofs.YtjonnfmoocijlaaGreat.P
open Go.RowKit Go.Proofs.YtjonnfmoocijlaaGreatKW.PrintWords Go.Proofs.YtjonnfmoocijlaaGreatKW.PrintLast Go.Proofs.YtjonnfmoocijlaaGreatKW.PrintMore
attribute [local go_sem] zN zP Af Ag zz zA zO zQ
mutual
def yR.l0 : Nat → List (AP) → Int → List Bool → Int → Int → List (List Int) → Int → Int → Option (Bool)
 | 0,_,_,_,_,_,_,_,_ => none
 | k + 1,x8,x9,EU,DX,ae,af,ag,ah => (zn.f ae af ag ah).bind fun Y8 => (if DX < Y8 then ((Fe.f k ae af ag ah x8 x9 DX).bind fun aa => (if aa.2.2 = 0 then (if aa.1 < 0 then (yR.j1 k x8 x9 EU DX true ae af ag ah aa.1 aa.2.1) else (if aa.1 ≥ (EU.length : Int) then (yR.j1 k x8 x9 EU DX true ae af ag ah aa.1 aa.2.1) else (if 0 ≤ aa.1 then (if aa.1 < (EU.length : Int) then (yR.j1 k x8 x9 EU DX (Ir false EU aa.1) ae af ag ah aa.1 aa.2.1) else (none)) else (none)))) else (yR.j1 k x8 x9 EU DX true ae af ag ah aa.1 aa.2.1))) else (some true))
def yR.j1 : Nat → List (AP) → Int → List Bool → Int → Bool → Int → List (List Int) → Int → Int → Int → Int → Option (Bool)
 | 0,_,_,_,_,_,_,_,_,_,_,_ => none
 | k + 1,x8,x9,EU,DX,aj,ae,af,ag,ah,ai,ak => if aj = true then (none) else (if 0 ≤ ai then (if ai < (EU.length : Int) then ((zX.f k ae af ag ah x8 ai).bind fun Qg => (yR.l1 k x8 x9 (EU.set (ai : Int).toNat true) DX Qg.1 Qg.2 0 0 ae af ag ah)) else (none)) else (none))
def yR.l1 : Nat → List (AP) → Int → List Bool → Int → List (Ff) → Int → Int → Int → Int → List (List Int) → Int → Int → Option (Bool)
 | 0,_,_,_,_,_,_,_,_,_,_,_,_ => none
 | k + 1,x8,x9,EU,DX,IQ,KT,P6,Rx,ae,af,ag,ah => if Rx < (IQ.length : Int) then (if 0 ≤ Rx then (if ((BC IQ Rx).f0) = x9 then (if ((BC IQ Rx).f1) = DX then (yR.l1 k x8 x9 EU DX IQ KT (wrap64 (P6 + 1)) (wrap64 (Rx + 1)) ae af ag ah) else (none)) else (yR.l1 k x8 x9 EU DX IQ KT P6 (wrap64 (Rx + 1)) ae af ag ah)) else (none)) else (if KT = 0 then (if P6 = 1 then (yR.l0 k x8 x9 EU (wrap64 (DX + 1)) ae af ag ah) else (none)) else (none))
end
def yR.f (k : Nat) (a0 : Int) (l1 : List Int) (a2 : Int) : Option (Bool) := (AL.f k).bind fun Y7 => (if Y7 = true then (if (l1.length : Int) > 20 then (some true) else ((zC.f k a0).bind fun DK => ((yN.f k DK.1 DK.2.1 DK.2.2.1 DK.2.2.2 l1).bind fun Ic => ((Ao.f DK.1 DK.2.1 DK.2.2.1 DK.2.2.2).bind fun Jh => (if Jh = 0 then (none) else (if 0 ≤ DK.1 then (if (DK.1 : Int).toNat ≤ 281474976710656 then (yR.l0 k Ic (Int.tmod (wrap64 (a2)) Jh) (List.replicate (DK.1 : Int).toNat false) 0 DK.1 DK.2.1 DK.2.2.1 DK.2.2.2) else (none)) else (none))))))) else (none))
set_option maxHeartbeats 8000000 in
set_option maxRecDepth 100000 in
theorem yR.calls (k : Nat) (a0 : Int) (A1 : Option Addr) (c1 : Nat) (l1 : List Int) (a2 : Int) (r : Bool) (w : World) (hr1 : Kd.C (Kd.int .u8) w A1 l1.length l1) (hc1 : l1.length ≤ c1) (h : yR.f k a0 l1 a2 = some r) :
  Calls Tryz.prog 4 #[.int .u16 a0,.slice A1 l1.length c1,.int .u16 a2] w fun e w' => e = .returned (.bool r) ∧ Below w.heap.size w w' := by
 have ET := Tryz.underlying29;have KE := Tryz.underlying51;have HR1 := yf.mk hr1;have Gt := yf.mk hc1;clear hr1 hc1;have HB := yf.mk (Below.refl w.heap.size w)
 have H : ((AL.f k).bind fun Y7 => (if Y7 = true then (if (l1.length : Int) > 20 then (some true) else ((zC.f k a0).bind fun DK => ((yN.f k DK.1 DK.2.1 DK.2.2.1 DK.2.2.2 l1).bind fun Ic => ((Ao.f DK.1 DK.2.1 DK.2.2.1 DK.2.2.2).bind fun Jh => (if Jh = 0 then (none) else (if 0 ≤ DK.1 then (if (DK.1 : Int).toNat ≤ 281474976710656 then (yR.l0 k Ic (Int.tmod (wrap64 (a2)) Jh) (List.replicate (DK.1 : Int).toNat false) 0 DK.1 DK.2.1 DK.2.2.1 DK.2.2.2) else (none)) else (none))))))) else (none))) = some r := h
 clear h;obtain ⟨Y7,A4,H⟩ := bE H
 try dsimp only at H
 by_cases c5 : Y7 = true
 rotate_left
 ·
  replace c5 := Bool.eq_false_iff.mpr c5;subst c5
  rw [if_neg (show ¬ (false = true) by decide)] at H
  exact absurd H (by simp)
 subst c5;rw [if_pos rfl] at H
 by_cases c6 : (l1.length : Int) > 20
 ·
  rw [if_pos c6] at H;have Eu := decide_eq_true c6
  have Ml : decide (20 < l1.length) = true := decide_eq_true (by omega)
  clear c6;obtain rfl := Option.some.inj H
  go_enter Tryz.func4,Tryz.ntmps4
  go_wp2_with (((with_reducible refine yz (f := 5) rfl ?_);refine gL (some 18) Tryz.func5 #[] ?_;(with_reducible refine (AL.calls k  true _ A4.out).mono ?_);rintro e w7 ⟨rfl,hb⟩;refine ⟨_,rfl,?_⟩;replace HB := bS HB hb;clear hb))
  go_ret
  exact ⟨by rfl,bO HB⟩
 rw [if_neg c6] at H;have Eu := decide_eq_false c6
 have Ml : decide (20 < l1.length) = false := decide_eq_false (by omega)
 clear c6;obtain ⟨⟨ah,ag,ak,au⟩,A8,H⟩ := bE H
 try dsimp only at H
 obtain ⟨Ic,A9,H⟩ := bE H
 try dsimp only at H
 obtain ⟨Jh,A10,H⟩ := bE H
 try dsimp only at H
 by_cases c11 : Jh = 0
 ·
  rw [if_pos c11] at H;exact absurd H (by simp)
 rw [if_neg c11] at H;have Fv := beq_eq_false_iff_ne.mpr c11;have Oq := bne_iff_ne.mpr c11
 by_cases c12 : 0 ≤ ah
 rotate_left
 ·
  rw [if_neg c12] at H;exact absurd H (by simp)
 rw [if_pos c12] at H;have Gj := eq_true c12;have Ot := decide_eq_true c12;clear c12
 by_cases c13 : (ah : Int).toNat ≤ 281474976710656
 rotate_left
 ·
  rw [if_neg c13] at H;exact absurd H (by simp)
 rw [if_pos c13] at H;have J3 := eq_true c13;have Tx := decide_eq_true c13;clear c13;obtain ⟨bP,bq⟩ : ∃ y_ : List Bool,y_ = (List.replicate (ah : Int).toNat false) := ⟨_,rfl⟩
 replace H : (yR.l0 k Ic (Int.tmod (wrap64 (a2)) Jh) bP 0 ah ag ak au) = some r := by (rw [bq];with_reducible exact H)
 have bW := yf.mk bq;clear bq;have H' := yf.mk H;clear H
 go_enter Tryz.func4,Tryz.ntmps4
 go_wp2_with (first | ((with_reducible refine yz (f := 5) rfl ?_);refine gL (some 18) Tryz.func5 #[] ?_;(with_reducible refine (AL.calls k  true _ A4.out).mono ?_);rintro e w14 ⟨rfl,hb⟩;refine ⟨_,rfl,?_⟩;replace HB := bS HB hb;clear hb) | ((with_reducible refine yz (f := 6) rfl ?_);refine gL (some 24) Tryz.func6 #[.int .u16 a0] ?_;(with_reducible refine (zC.calls k a0 ah ag ak au _ A8.out).mono ?_);rintro e w15 ⟨v723,rfl,ho0,hb⟩;refine ⟨_,rfl,?_⟩;have ax := yf.mk (Kd.FO ho0 (yF (bO HB)));replace HB := bS HB hb;clear hb;clear ho0) | ((with_reducible refine yG (N := 7) rfl ?_);(try (refine AX (by rfl) ?_;dsimp only));refine yD rfl (N := 7) rfl (cs := #[.int .i64 0,.slice none 0 0,.int .i64 0,.int .i64 0]) (t := 29) (by go_simp) ?_;intro az hg w16 yI hb;replace ax := Lj ax hb;have aa := yf.mk (yI);have dB := bG (w := w) hg;have dx := bG (w := w) hg;replace HB := bS HB hb;clear hb yI hg;have IB := AO aa;have IG := bf aa;obtain ⟨EW,EE,Sq⟩ := Kd.EM ax.out;subst Sq) | ((with_reducible refine yz (f := 7) rfl ?_);refine gL (some 27) Tryz.func7 #[.agg #[.int .i64 ah,.slice EW ag.length EE,.int .i64 ak,.int .i64 au],.slice A1 l1.length c1] ?_;(with_reducible refine (yN.calls k ah _ _ ag ak au _ _ l1 Ic _ ?yB ?yC ?zI ?zJ A9.out).mono ?_);(case yB => refine (Kd.Cb (e := 37) (base := w.heap.size) (ok := fun k_ => True) (n := ag.length) (c := EE) ?_).2.2;exact (by (with_reducible repeat (apply Kd.Be));exact (Kd.BI (MG (g := az) (Kd.C8 ax.out aa.out (by decide)) (fun _ hk => hk.2)) (fun _ h_ => h_.1))));(case yC => exact (Kd.Cb ax.out).2.1);(case zI => exact Kd.CE HR1.out (bO HB));(case zJ => exact Gt.out);rintro e w19 ⟨v729,rfl,ho0,hb⟩;refine ⟨_,rfl,?_⟩;replace ax := yf.mk (Kd.Fj (by (with_reducible repeat (apply Kd.Be));exact (Kd.BI (MG (g := az) (Kd.C8 ax.out aa.out (by decide)) (fun _ hk => hk.2)) (fun _ h_ => h_.1))) hb);have aJ := yf.mk (Kd.AC ho0 (yF (bO HB)));replace aa := yf.mk (yZ (g := az) (o := .cells #[.int .i64 ah,.slice EW ag.length EE,.int .i64 ak,.int .i64 au] 29 (0,0)) (CY aa rfl) hb);replace HB := bS HB hb;clear hb;clear ho0;have OB := AO aa;have OE := bf aa) | ((with_reducible refine yz (f := 13) rfl ?_);refine gL (some 31) Tryz.func13 #[.agg #[.int .i64 ah,.slice EW ag.length EE,.int .i64 ak,.int .i64 au]] ?_;(with_reducible refine (Ao.calls ah _ _ ag ak au Jh _ ?yB ?yC A10.out).mono ?_);(case yB => exact QV ax);(case yC => exact (Kd.Cb ax.out).2.1);rintro e w21 ⟨rfl,hb⟩;refine ⟨_,rfl,?_⟩;replace ax := Lj ax hb;replace aJ := CR aJ hb;replace aa := bB aa hb;replace HB := bS HB hb;clear hb;have LQ := AO aa;have LW := bf aa) | ((with_reducible refine yG (N := 36) rfl ?_);(try (refine AX (by rfl) ?_;dsimp only));refine Kd.MW Kd.bool _ 4 rfl (N := 36) rfl 49 _ _ rfl ah rfl rfl Tryz.underlying49 (.bool false) 1 a14 rfl (by decide) (by omega) false (ok := fun _ => True) (okp := fun _ => True) rfl (fun _ hk => hk) trivial (of_decide_eq_true ‹_›) (Nat.le_trans (Nat.mul_le_mul_right _ (of_decide_eq_true ‹_› : ah.toNat ≤ 281474976710656)) (by omega)) (Below.refl _ _) (Nat.le_refl _) ?_;intro v733 w23 bn hb JY DL;clear JY DL;(rw [← bW.out] at bn);replace ax := Lj ax hb;replace aJ := CR aJ hb;have bU := yf.mk (Kd.AC bn (yF (bO HB)));replace aa := bB aa hb;replace HB := bS HB hb;clear hb bn))
 go_loopg [11] k (fun kq v11 w' => ∃ (Ew : List Bool) (Ae : Int),v11 = .int .i64 Ae ∧ yf (yR.l0 kq Ic (Int.tmod (wrap64 (a2)) Jh) Ew Ae ah ag ak au = some r) ∧ yf (kq ≤ k) ∧ yf (Kd.R DN 60 w' w.heap.size (fun _ => True) v729 Ic) ∧ yf (Kd.R Kd.bool 4 w' w.heap.size (fun _ => True) v733 Ew) ∧ yf (Kd.S (Kd.slice 3 (Kd.int .i64)) 37 w' w.heap.size (fun _ => True) (.slice EW ag.length EE) ag) ∧ yf (w'.heap[az]? = some (.cells #[.int .i64 ah,(.slice EW ag.length EE),.int .i64 ak,.int .i64 au] 29 (0,0))) ∧ yf (Below w.heap.size w w'))
 case atStart => exact ⟨(bP),(0),(by rfl),H',⟨Nat.le_refl _⟩,⟨kR aJ⟩,⟨kR bU⟩,⟨kS ax⟩,⟨kk aa⟩,⟨bO HB⟩⟩
 case round =>
 clear H' Eu Ml c11 Fv Oq Gj Ot J3 Tx IB OB LQ IG OE LW;obtain ⟨Ew,Ae,rfl,HA,Bn,Ci,ze,af,aa,HB⟩ := hrel
 cases gk with
 | zero => exact absurd HA.out (by simp [yR.l0])
 | succ k1 =>
 have H := HA.out;clear HA;simp only [yR.l0] at H;obtain ⟨Y8,Vt,H⟩ := bE H
 try dsimp only at H
 by_cases K7 : Ae < Y8
 rotate_left
 ·
  rw [if_neg K7] at H;have Nf := decide_eq_false K7;clear K7;obtain rfl := Option.some.inj H;have a0d := AO aa;have a0q := bf aa
  go_wp2_with (((with_reducible refine yz (f := 14) rfl ?_);refine gL (some 39) Tryz.func14 #[.agg #[.int .i64 ah,.slice EW ag.length EE,.int .i64 ak,.int .i64 au]] ?_;(with_reducible refine (zn.calls ah _ _ ag ak au Y8 _ ?yB ?yC Vt.out).mono ?_);(case yB => exact QV af);(case yC => exact (Kd.Cb af.out).2.1);rintro e w72 ⟨rfl,hb⟩;refine ⟨_,rfl,?_⟩;replace Ci := CR Ci hb;replace ze := CR ze hb;replace af := Lj af hb;replace aa := bB aa hb;replace HB := bS HB hb;clear hb))
  go_ret
  exact ⟨by rfl,bO HB⟩
 rw [if_pos K7] at H;have Nf := decide_eq_true K7;clear K7;obtain ⟨⟨aj,aI,bF⟩,bQ,H⟩ := bE H
 try dsimp only at H
 have aZ := yf.mk H;clear H;have WO := AO aa;have WT := bf aa
 go_upto_region 13 with (first | ((with_reducible refine yz (f := 14) rfl ?_);refine gL (some 39) Tryz.func14 #[.agg #[.int .i64 ah,.slice EW ag.length EE,.int .i64 ak,.int .i64 au]] ?_;(with_reducible refine (zn.calls ah _ _ ag ak au Y8 _ ?yB ?yC Vt.out).mono ?_);(case yB => exact QV af);(case yC => exact (Kd.Cb af.out).2.1);rintro e w30 ⟨rfl,hb⟩;refine ⟨_,rfl,?_⟩;replace Ci := CR Ci hb;replace ze := CR ze hb;replace af := Lj af hb;replace aa := bB aa hb;replace HB := bS HB hb;clear hb;have JI := AO aa;have JK := bf aa;obtain ⟨Gv,G9,Nt⟩ := Kd.zB Ci.out;subst Nt) | ((with_reducible refine yz (f := 15) rfl ?_);refine gL (some 48) Tryz.func15 #[.agg #[.int .i64 ah,.slice EW ag.length EE,.int .i64 ak,.int .i64 au],.slice Gv Ic.length G9,.int .i64 (Int.tmod (wrap64 (a2)) Jh),.int .i64 Ae] ?_;(with_reducible refine (Fe.calls k1 ah _ _ ag ak au _ _ Ic (Int.tmod (wrap64 (a2)) Jh) Ae aj aI bF _ ?yB ?yC ?zI ?zJ bQ.out).mono ?_);(case yB => exact QV af);(case yC => exact (Kd.Cb af.out).2.1);(case zI => exact Jq Ci);(case zJ => exact (Kd.zb Ci.out).2.1);rintro e w33 ⟨rfl,hb⟩;refine ⟨_,rfl,?_⟩;replace Ci := CR Ci hb;replace ze := CR ze hb;replace af := Lj af hb;replace aa := bB aa hb;replace HB := bS HB hb;clear hb) | ((with_reducible refine yG (N := 12) rfl ?_);(try (refine AX (by rfl) ?_;dsimp only));refine yD rfl (N := 12) rfl (cs := #[.int .i64 0,.int .i64 0]) (t := 51) (by go_simp) ?_;intro av hg w34 yI hb;have ae := yf.mk (yI);have dC := bG (w := w) hg;have dz := bG (w := w) hg;have aK := Cq aa hg;have aM := Aq aa hg;replace Ci := CR Ci hb;replace ze := CR ze hb;replace af := Lj af hb;replace aa := bB aa hb;replace HB := bS HB hb;clear hb yI hg;have U1 := aM.out;have Uc := aK.out;have NC := bc2 ae;have NH := bf ae))
 (try simp only [pz])
 go_cut [71] (fun v71 wc => ∃ (kq : Nat) (aY : Bool),v71 = .bool aY ∧ yf (yR.j1 kq Ic (Int.tmod (wrap64 (a2)) Jh) Ew Ae aY ah ag ak au aj aI = some r) ∧ yf (kq ≤ k1) ∧ yf (Kd.R DN 60 wc w.heap.size (fun _ => True) (.slice Gv Ic.length G9) Ic) ∧ yf (Kd.R Kd.bool 4 wc w.heap.size (fun _ => True) v733 Ew) ∧ yf (Kd.S (Kd.slice 3 (Kd.int .i64)) 37 wc w.heap.size (fun _ => True) (.slice EW ag.length EE) ag) ∧ yf (wc.heap[az]? = some (.cells #[.int .i64 ah,(.slice EW ag.length EE),.int .i64 ak,.int .i64 au] 29 (0,0))) ∧ yf (wc.heap[av]? = some (.cells #[.int .i64 aj,.int .i64 aI] 51 (0,0))) ∧ yf (Below w.heap.size w wc))
 case first =>
  have H := aZ.out;clear aZ
  by_cases c37 : bF = 0
  rotate_left
  ·
   rw [if_neg c37] at H;have Kk := beq_eq_false_iff_ne.mpr c37;have VV := bne_iff_ne.mpr c37
   (skip)
   have H' := yf.mk H;clear H
   go_wp2
   go_meet
   case rel => exact ⟨_,(true),(by rfl),H',⟨by have := Bn.out;omega⟩,⟨by (with_reducible repeat (apply Kd.zg));exact Kd.zf (GG (g := av) (Kd.Bw Ci.out ae.out (by decide)) (fun _ hk => hk.2)) (fun _ hk => trivial)⟩,⟨by (with_reducible repeat (apply Kd.zg));exact Kd.zf (GG (g := av) (Kd.Bw ze.out ae.out (by decide)) (fun _ hk => hk.2)) (fun _ hk => trivial)⟩,⟨by (with_reducible repeat (apply Kd.Be));exact Kd.BI (MG (g := av) (Kd.C8 af.out ae.out (by decide)) (fun _ hk => hk.2)) (fun _ hk => trivial)⟩,bK aa rfl,bK ae rfl,⟨bO HB⟩⟩
  rw [if_pos c37] at H;have Kk := beq_iff_eq.mpr c37
  have VV : (bF != 0) = false := bne_eq_false_iff_eq.mpr c37
  clear c37
  (skip)
  by_cases Gq : aj < 0
  ·
   rw [if_pos Gq] at H;have J4 := decide_eq_true Gq;clear Gq;have H' := yf.mk H;clear H;have U3 := aM.out;have Ue := aK.out;have a07 := bc2 ae;have a0k := bf ae
   go_wp2
   go_meet
   case rel => exact ⟨_,(true),(by rfl),H',⟨by have := Bn.out;omega⟩,⟨by (with_reducible repeat (apply Kd.zg));exact Kd.zf (GG (g := av) (Kd.Bw Ci.out ae.out (by decide)) (fun _ hk => hk.2)) (fun _ hk => trivial)⟩,⟨by (with_reducible repeat (apply Kd.zg));exact Kd.zf (GG (g := av) (Kd.Bw ze.out ae.out (by decide)) (fun _ hk => hk.2)) (fun _ hk => trivial)⟩,⟨by (with_reducible repeat (apply Kd.Be));exact Kd.BI (MG (g := av) (Kd.C8 af.out ae.out (by decide)) (fun _ hk => hk.2)) (fun _ hk => trivial)⟩,bK aa rfl,bK ae rfl,⟨bO HB⟩⟩
  rw [if_neg Gq] at H;have J4 := decide_eq_false Gq;clear Gq
  by_cases Jy : aj ≥ (Ew.length : Int)
  ·
   rw [if_pos Jy] at H;have TB := decide_eq_true Jy;clear Jy;have H' := yf.mk H;clear H;have a0x := aM.out;have a0O := aK.out;have a08 := bc2 ae;have a0l := bf ae;obtain ⟨dn,dI,cz⟩ := Kd.zB ze.out;subst cz
   go_wp2
   go_meet
   case rel => exact ⟨_,(true),(by rfl),H',⟨by have := Bn.out;omega⟩,⟨by (with_reducible repeat (apply Kd.zg));exact Kd.zf (GG (g := av) (Kd.Bw Ci.out ae.out (by decide)) (fun _ hk => hk.2)) (fun _ hk => trivial)⟩,⟨by (with_reducible repeat (apply Kd.zg));exact Kd.zf (GG (g := av) (Kd.Bw ze.out ae.out (by decide)) (fun _ hk => hk.2)) (fun _ hk => trivial)⟩,⟨by (with_reducible repeat (apply Kd.Be));exact Kd.BI (MG (g := av) (Kd.C8 af.out ae.out (by decide)) (fun _ hk => hk.2)) (fun _ hk => trivial)⟩,bK aa rfl,bK ae rfl,⟨bO HB⟩⟩
  rw [if_neg Jy] at H;have TB := decide_eq_false Jy;clear Jy
  by_cases LJ : 0 ≤ aj
  rotate_left
  ·
   rw [if_neg LJ] at H;exact absurd H (by simp)
  rw [if_pos LJ] at H;have TD := decide_eq_true LJ;clear LJ
  by_cases c46 : aj < (Ew.length : Int)
  rotate_left
  ·
   rw [if_neg c46] at H;exact absurd H (by simp)
  rw [if_pos c46] at H;have ZT := decide_eq_true c46;clear c46;have H' := yf.mk H;clear H;have U5 := aM.out;have Ug := aK.out;have OD := bc2 ae;have OH := bf ae;obtain ⟨a1f,a1K,SA⟩ := Kd.zB ze.out;subst SA
  have bv : 0 ≤ (aj : Int) := of_decide_eq_true ‹_›
  have bC : aj < (Ew.length : Int) := of_decide_eq_true ‹_›
  obtain ⟨bI,bZ,aV⟩ := Kd.Gn (Kd.zb ze.out).2.2 aj bv bC;cases bZ
  have bM : bI.block ≠ av := Kd.PS (Kd.DC ze.out ae.out (by decide))
  have bN : bI.block ≠ av := Kd.PS (Kd.DC ze.out ae.out (by decide))
  replace aV := (cell_far (p := ⟨av,0,none⟩) (by (rw [add_block];exact bM)) (.int .i64 aj)).trans aV;replace aV := (cell_far (p := ⟨av,1,none⟩) (by (rw [add_block];exact bN)) (.int .i64 aI)).trans aV;clear bM bN;replace bv := eq_true bv;replace bC := eq_true bC
  go_wp2
  go_meet
  case rel => exact ⟨_,(Ir false Ew aj),(by rfl),H',⟨by have := Bn.out;omega⟩,⟨by (with_reducible repeat (apply Kd.zg));exact Kd.zf (GG (g := av) (Kd.Bw Ci.out ae.out (by decide)) (fun _ hk => hk.2)) (fun _ hk => trivial)⟩,⟨by (with_reducible repeat (apply Kd.zg));exact Kd.zf (GG (g := av) (Kd.Bw ze.out ae.out (by decide)) (fun _ hk => hk.2)) (fun _ hk => trivial)⟩,⟨by (with_reducible repeat (apply Kd.Be));exact Kd.BI (MG (g := av) (Kd.C8 af.out ae.out (by decide)) (fun _ hk => hk.2)) (fun _ hk => trivial)⟩,bK aa rfl,bK ae rfl,⟨bO HB⟩⟩
 case rest =>
 clear aZ Nf WO JI NC WT JK NH;obtain ⟨kq,aY,rfl,HA,aG,Ci,ze,af,aa,ae,HB⟩ := hcut
 cases kq with
 | zero => exact absurd HA.out (by simp [yR.j1])
 | succ aQ =>
  have H := HA.out;clear HA;simp only [yR.j1] at H
  by_cases TE : aY = true
  ·
   subst TE;rw [if_pos rfl] at H;exact absurd H (by simp)
  ·
   replace TE := Bool.eq_false_iff.mpr TE;subst TE
   rw [if_neg (show ¬ (false = true) by decide)] at H
   by_cases c51 : 0 ≤ aj
   ·
    rw [if_pos c51] at H;have TF := decide_eq_true c51;clear c51
    by_cases Rs : aj < (Ew.length : Int)
    ·
     rw [if_pos Rs] at H;have TG := decide_eq_true Rs;clear Rs;obtain ⟨aT,bu⟩ : ∃ y_ : List Bool,y_ = (Ew.set (aj : Int).toNat true) := ⟨_,rfl⟩
     replace H : ((zX.f aQ ah ag ak au Ic aj).bind fun Qg => (yR.l1 aQ Ic (Int.tmod (wrap64 (a2)) Jh) aT Ae Qg.1 Qg.2 0 0 ah ag ak au)) = some r := by (rw [bu];with_reducible exact H)
     have bX := yf.mk bu;clear bu;obtain ⟨⟨ay,aX⟩,bR,H⟩ := bE H
     try dsimp only at H
     have H' := yf.mk H;clear H;have a0A := aM.out;have a0R := aK.out;have d9 := bc2 ae;have df := bf ae
     have p53 : 0 ≤ (aj : Int) := of_decide_eq_true ‹_›
     have aW : (aj : Int) < ((Ew.length : Int) : Int) := of_decide_eq_true ‹_›
     obtain ⟨aH,aU,cK,bL,cZ,dH,bH⟩ := Kd.Hm ze.out (by omega)
     (cases cK)
     have bT := yf.mk bL;have dA := yf.mk bH;clear bL cZ bH;obtain ⟨dh,dK⟩ := Kd.Fh false ze.out (aj : Int) p53 aW;replace p53 := eq_true p53;replace aW := eq_true aW;have bg := Kd.KW ze.out (aj : Int) true
     go_wp2_with (first | ((with_reducible refine F8 (t := 4) (p := 75) rfl ?_);refine EI (t := 4) (p := 75) (v := ?vo_w58) (w1 := (wc.setCell ⟨aH,(aj : Int).toNat,none⟩ (.bool true))) ?hg ?ho ?hn ?hr ?_;(case ho => rfl);(case hg => rfl);(case hn => rfl);(case hr => go_simp);intro w58 hw;have hg : wc.grownBy w58 (some aH) := (by rw [hw];exact bg.2);have OL : Kd.R Kd.bool 4 w58 w.heap.size (fun _ => True) (.slice (some ⟨aH,0,none⟩) Ew.length aU) aT := (by rw [hw,bX.out];exact bg.1);clear bg;have BR := yf.mk (Kd.Jl (v := (.slice (some ⟨aH,0,none⟩) Ew.length aU)) (kR Ci) (Kd.Ii ze.out) (by decide) hg);have BS := yf.mk (OL);have Ce := yf.mk (Kd.YF (v := (.slice (some ⟨aH,0,none⟩) Ew.length aU)) (kS af) (Kd.Ii ze.out) (by decide) hg);have CZ := yf.mk (zL (g := az) (o := .cells #[.int .i64 ah,.slice EW ag.length EE,.int .i64 ak,.int .i64 au] 29 (0,0)) (kk aa) hg (Kd.DC ze.out aa.out (by decide)));have Dx := yf.mk (zL (g := av) (o := .cells #[.int .i64 aj,.int .i64 aI] 51 (0,0)) (kk ae) hg (Kd.DC ze.out ae.out (by decide)));have E5 := yf.mk ((by rw [hw];exact Dw (HB.out) bT.out : Below w.heap.size w w58));clear Ci;clear ze;clear af;clear aa;clear ae;clear HB;have Ci := BR;have ze := BS;have af := Ce;have aa := CZ;have ae := Dx;have HB := E5;clear BR BS Ce CZ Dx E5;clear hg hw OL;have WR := AO aa;have WW := bf aa;have TM := bc2 ae;have TT := bf ae) | ((with_reducible refine yz (f := 8) rfl ?_);refine gL (some 81) Tryz.func8 #[.agg #[.int .i64 ah,.slice EW ag.length EE,.int .i64 ak,.int .i64 au],.slice Gv Ic.length G9,.int .i64 aj] ?_;(with_reducible refine (zX.calls aQ ah _ _ ag ak au _ _ Ic aj ay aX _ ?yB ?yC ?zI ?zJ bR.out).mono ?_);(case yB => exact QV af);(case yC => exact (Kd.Cb af.out).2.1);(case zI => exact Jq Ci);(case zJ => exact (Kd.zb Ci.out).2.1);rintro e w61 ⟨v743,rfl,ho0,hb⟩;refine ⟨_,rfl,?_⟩;replace Ci := CR Ci hb;replace ze := CR ze hb;replace af := Lj af hb;have bV := yf.mk (Kd.AC ho0 (yF (bO HB)));replace aa := bB aa hb;replace ae := bB ae hb;replace HB := bS HB hb;clear hb;clear ho0))
     go_loopg [16,17] aQ (fun kq v16 v17 w' => ∃ (aD : Int) (E8 : Int),v16 = .int .i64 aD ∧ v17 = .int .i64 E8 ∧ yf (yR.l1 kq Ic (Int.tmod (wrap64 (a2)) Jh) aT Ae ay aX aD E8 ah ag ak au = some r) ∧ yf (kq ≤ aQ) ∧ yf (Kd.R DN 60 w' w.heap.size (fun _ => True) (.slice Gv Ic.length G9) Ic) ∧ yf (Kd.R Kd.bool 4 w' w.heap.size (fun _ => True) (.slice (some ⟨aH,0,none⟩) Ew.length aU) aT) ∧ yf (Kd.R NJ 45 w' w.heap.size (fun _ => True) v743 ay) ∧ yf (Kd.S (Kd.slice 3 (Kd.int .i64)) 37 w' w.heap.size (fun _ => True) (.slice EW ag.length EE) ag) ∧ yf (w'.heap[az]? = some (.cells #[.int .i64 ah,(.slice EW ag.length EE),.int .i64 ak,.int .i64 au] 29 (0,0))) ∧ yf (w'.heap[av]? = some (.cells #[.int .i64 aj,.int .i64 aI] 51 (0,0))) ∧ yf (Below w.heap.size w w'))
     case atStart => exact ⟨(0),(0),(by rfl),(by rfl),H',⟨Nat.le_refl _⟩,⟨kR Ci⟩,⟨kR ze⟩,⟨kR bV⟩,⟨kS af⟩,⟨kk aa⟩,⟨kk ae⟩,⟨bO HB⟩⟩
     case round =>
      clear H' TF TG p53 aW d9 WR TM df WW TT dh;obtain ⟨aD,E8,rfl,rfl,HA,Fx,Ci,ze,Eb,af,aa,ae,HB⟩ := hrel;have ai := (Kd.zb ze.out).1;rw [ai] at ze
      (try simp only [ai])
      (try simp only [ai] at aa)
      (try simp only [ai] at ae)
      (try simp only [ai] at Ci)
      (try simp only [ai] at Eb)
      (try simp only [ai] at af)
      cases gk with
      | zero => exact absurd HA.out (by simp [yR.l1])
      | succ k3 =>
       have H := HA.out;clear HA;simp only [yR.l1] at H
       by_cases JF : E8 < (ay.length : Int)
       ·
        rw [if_pos JF] at H;have Oy := decide_eq_true JF;clear JF
        by_cases Mk : 0 ≤ E8
        ·
         rw [if_pos Mk] at H;have ZY := decide_eq_true Mk;clear Mk
         by_cases c64 : ((BC ay E8).f0) = (Int.tmod (wrap64 (a2)) Jh)
         ·
          rw [if_pos c64] at H;have LK := beq_iff_eq.mpr c64
          have Wi : (((BC ay E8).f0) != (Int.tmod (wrap64 (a2)) Jh)) = false := bne_eq_false_iff_eq.mpr c64
          clear c64
          by_cases Vp : ((BC ay E8).f1) = Ae
          ·
           rw [if_pos Vp] at H;have ZZ := beq_iff_eq.mpr Vp
           have dD : (((BC ay E8).f1) != Ae) = false := bne_eq_false_iff_eq.mpr Vp
           clear Vp;have H' := yf.mk H;clear H;obtain ⟨Vw,UE,WC⟩ := Kd.zB Eb.out;subst WC
           have aA : 0 ≤ (E8 : Int) := of_decide_eq_true ‹_›
           have aC : E8 < (ay.length : Int) := of_decide_eq_true ‹_›
           obtain ⟨bJ,bi,di,dm⟩ := JS (Kd.zb Eb.out).2.2 E8 aA aC;cases bi;replace aA := eq_true aA;replace aC := eq_true aC
           have bA : 0 ≤ (E8 : Int) := of_decide_eq_true ‹_›
           have bD : E8 < (ay.length : Int) := of_decide_eq_true ‹_›
           obtain ⟨bY,cu,dL,dM⟩ := JS (Kd.zb Eb.out).2.2 E8 bA bD;obtain rfl : bJ = bY := (by injection cu);replace bA := eq_true bA;replace bD := eq_true bD
           go_wp2
           (try simp only [← ai])
           go_roundg k3
           case measure => have := Bn.out;have := aG.out;have := Fx.out;omega
           case rel => exact ⟨(wrap64 (aD + 1)),(wrap64 (E8 + 1)),(by rfl),(by rfl),H',⟨by have := Bn.out;have := aG.out;have := Fx.out;omega⟩,⟨by (try simp only [ai]);(with_reducible repeat (apply Kd.zg));exact Ci.out⟩,⟨by (try simp only [ai]);(with_reducible repeat (apply Kd.zg));exact ze.out⟩,⟨by (try simp only [ai]);(with_reducible repeat (apply Kd.zg));exact Eb.out⟩,⟨by (try simp only [ai]);(with_reducible repeat (apply Kd.Be));exact af.out⟩,⟨by (try simp only [ai]);refine kp ?_;exact aa.out⟩,⟨by (try simp only [ai]);refine kp ?_;exact ae.out⟩,⟨bO HB⟩⟩
          ·
           rw [if_neg Vp] at H;exact absurd H (by simp)
         ·
          rw [if_neg c64] at H;have LK := beq_eq_false_iff_ne.mpr c64;have Wi := bne_iff_ne.mpr c64;have H' := yf.mk H;clear H;obtain ⟨dw,dJ,cO⟩ := Kd.zB Eb.out;subst cO
          have aA : 0 ≤ (E8 : Int) := of_decide_eq_true ‹_›
          have aC : E8 < (ay.length : Int) := of_decide_eq_true ‹_›
          obtain ⟨bJ,bi,di,dm⟩ := JS (Kd.zb Eb.out).2.2 E8 aA aC;cases bi;replace aA := eq_true aA;replace aC := eq_true aC
          go_wp2
          (try simp only [← ai])
          go_roundg k3
          case measure => have := Bn.out;have := aG.out;have := Fx.out;omega
          case rel => exact ⟨(aD),(wrap64 (E8 + 1)),(by rfl),(by rfl),H',⟨by have := Bn.out;have := aG.out;have := Fx.out;omega⟩,⟨by (try simp only [ai]);(with_reducible repeat (apply Kd.zg));exact Ci.out⟩,⟨by (try simp only [ai]);(with_reducible repeat (apply Kd.zg));exact ze.out⟩,⟨by (try simp only [ai]);(with_reducible repeat (apply Kd.zg));exact Eb.out⟩,⟨by (try simp only [ai]);(with_reducible repeat (apply Kd.Be));exact af.out⟩,⟨by (try simp only [ai]);refine kp ?_;exact aa.out⟩,⟨by (try simp only [ai]);refine kp ?_;exact ae.out⟩,⟨bO HB⟩⟩
        ·
         rw [if_neg Mk] at H;exact absurd H (by simp)
       ·
        rw [if_neg JF] at H;have Oy := decide_eq_false JF;clear JF
        by_cases aN : aX = 0
        ·
         rw [if_pos aN] at H;have dE := beq_iff_eq.mpr aN
         have dF : (aX != 0) = false := bne_eq_false_iff_eq.mpr aN
         clear aN
         by_cases Vq : aD = 1
         ·
          rw [if_pos Vq] at H;have a00 := beq_iff_eq.mpr Vq
          have dG : (aD != 1) = false := bne_eq_false_iff_eq.mpr Vq
          clear Vq;have H' := yf.mk H;clear H;obtain ⟨a5E,a5X,a2b⟩ := Kd.zB Eb.out;subst a2b
          go_wp2
          (try simp only [← ai])
          go_roundg k3
          case measure => have := Bn.out;have := aG.out;have := Fx.out;omega
          case rel => exact ⟨(aT),(wrap64 (Ae + 1)),(by rfl),H',⟨by have := Bn.out;have := aG.out;have := Fx.out;omega⟩,⟨by (try simp only [ai]);(with_reducible repeat (apply Kd.zg));exact Ci.out⟩,⟨by (try simp only [ai]);(with_reducible repeat (apply Kd.zg));exact ze.out⟩,⟨by (try simp only [ai]);(with_reducible repeat (apply Kd.Be));exact af.out⟩,⟨by (try simp only [ai]);refine kp ?_;exact aa.out⟩,⟨bO HB⟩⟩
         ·
          rw [if_neg Vq] at H;exact absurd H (by simp)
        ·
         rw [if_neg aN] at H;exact absurd H (by simp)
    ·
     rw [if_neg Rs] at H;exact absurd H (by simp)
   ·
    rw [if_neg c51] at H;exact absurd H (by simp)
end Go.Proofs.YtjonnfmoocijlaaGreat.P
