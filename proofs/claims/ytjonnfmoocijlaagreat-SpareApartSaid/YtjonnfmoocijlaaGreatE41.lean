/- Texts of a claim, packed. -/
import Derived.Test.YtjonnfmoocijlaaGreatE40
set_option linter.all false
namespace Go.Proofs.YtjonnfmoocijlaaGreat.P
open Go.RowKit Go.Proofs.YtjonnfmoocijlaaGreatKW.PrintWords Go.Proofs.YtjonnfmoocijlaaGreatKW.PrintLast Go.Proofs.YtjonnfmoocijlaaGreatKW.PrintMore
attribute [local go_sem] zN zP Af Ag zz zA zO zQ
attribute [local go_sem high] WE
def AL.f (k : Nat)  : Option (Bool) := (yo.f k 5 4).bind fun EY => ((yY.f k EY.1 EY.2 1 2 ([] : List (AP)) 0 (([true,false,false,false,false] : List Bool))).bind fun IY => ((yY.f k EY.1 EY.2 1 2 ([] : List (AP)) 0 (([false,false,false,false,true] : List Bool))).bind fun N8 => ((zK.f k EY.1 EY.2 1 2 ([] : List (AP)) 0 2 4 4).bind fun Fq => ((D6.f k EY.1 EY.2 1 2 Fq.1 4).bind fun IZ => ((yY.f k EY.1 EY.2 1 2 Fq.1 1 (([true,false,false,false,false] : List Bool))).bind fun Fs => (if IY.2.2 = 0 then (if (IY.1 == 4 && (IY.2.1 == 4)) = true then (if N8.2.2 = 11 then (if Fq.2 = 0 then (if (Fq.1.length : Int) = 1 then (if IZ.2 = 0 then ((zF.f k IZ.1 (([4] : List Int))).bind fun Lr => (if Lr = true then (if Fs.2.2 = 0 then (if (Fs.1 == 3 && (Fs.2.1 == 4)) = true then (some true) else (none)) else (none)) else (none))) else (none)) else (none)) else (none)) else (none)) else (none)) else (none)))))))
set_option maxHeartbeats 8000000 in
set_option maxRecDepth 100000 in
theorem AL.calls (k : Nat)  (r : Bool) (w : World) (h : AL.f k  = some r) :
  Calls Tryz.prog 5 #[] w fun e w' => e = .returned (.bool r) ∧ Below w.heap.size w w' := by
 have ET := Tryz.underlying29;have KE := Tryz.underlying51;have Ob := Tryz.underlying60;have HB := yf.mk (Below.refl w.heap.size w)
 have H : ((yo.f k 5 4).bind fun EY => ((yY.f k EY.1 EY.2 1 2 ([] : List (AP)) 0 (([true,false,false,false,false] : List Bool))).bind fun IY => ((yY.f k EY.1 EY.2 1 2 ([] : List (AP)) 0 (([false,false,false,false,true] : List Bool))).bind fun N8 => ((zK.f k EY.1 EY.2 1 2 ([] : List (AP)) 0 2 4 4).bind fun Fq => ((D6.f k EY.1 EY.2 1 2 Fq.1 4).bind fun IZ => ((yY.f k EY.1 EY.2 1 2 Fq.1 1 (([true,false,false,false,false] : List Bool))).bind fun Fs => (if IY.2.2 = 0 then (if (IY.1 == 4 && (IY.2.1 == 4)) = true then (if N8.2.2 = 11 then (if Fq.2 = 0 then (if (Fq.1.length : Int) = 1 then (if IZ.2 = 0 then ((zF.f k IZ.1 (([4] : List Int))).bind fun Lr => (if Lr = true then (if Fs.2.2 = 0 then (if (Fs.1 == 3 && (Fs.2.1 == 4)) = true then (some true) else (none)) else (none)) else (none))) else (none)) else (none)) else (none)) else (none)) else (none)) else (none)))))))) = some r := h
 clear h;obtain ⟨⟨ai,ah⟩,A1,H⟩ := bE H
 try dsimp only at H
 obtain ⟨bA,bg⟩ : ∃ y_ : List Bool,y_ = (([true,false,false,false,false] : List Bool)) := ⟨_,rfl⟩
 replace H : ((yY.f k ai ah 1 2 ([] : List (AP)) 0 bA).bind fun IY => ((yY.f k ai ah 1 2 ([] : List (AP)) 0 (([false,false,false,false,true] : List Bool))).bind fun N8 => ((zK.f k ai ah 1 2 ([] : List (AP)) 0 2 4 4).bind fun Fq => ((D6.f k ai ah 1 2 Fq.1 4).bind fun IZ => ((yY.f k ai ah 1 2 Fq.1 1 (([true,false,false,false,false] : List Bool))).bind fun Fs => (if IY.2.2 = 0 then (if (IY.1 == 4 && (IY.2.1 == 4)) = true then (if N8.2.2 = 11 then (if Fq.2 = 0 then (if (Fq.1.length : Int) = 1 then (if IZ.2 = 0 then ((zF.f k IZ.1 (([4] : List Int))).bind fun Lr => (if Lr = true then (if Fs.2.2 = 0 then (if (Fs.1 == 3 && (Fs.2.1 == 4)) = true then (some true) else (none)) else (none)) else (none))) else (none)) else (none)) else (none)) else (none)) else (none)) else (none))))))) = some r := by (rw [bg];with_reducible exact H)
 have bW := yf.mk bg;clear bg;obtain ⟨⟨az,aA,aQ⟩,A2,H⟩ := bE H
 try dsimp only at H
 obtain ⟨bC,bi⟩ : ∃ y_ : List Bool,y_ = (([false,false,false,false,true] : List Bool)) := ⟨_,rfl⟩
 replace H : ((yY.f k ai ah 1 2 ([] : List (AP)) 0 bC).bind fun N8 => ((zK.f k ai ah 1 2 ([] : List (AP)) 0 2 4 4).bind fun Fq => ((D6.f k ai ah 1 2 Fq.1 4).bind fun IZ => ((yY.f k ai ah 1 2 Fq.1 1 (([true,false,false,false,false] : List Bool))).bind fun Fs => (if aQ = 0 then (if (az == 4 && (aA == 4)) = true then (if N8.2.2 = 11 then (if Fq.2 = 0 then (if (Fq.1.length : Int) = 1 then (if IZ.2 = 0 then ((zF.f k IZ.1 (([4] : List Int))).bind fun Lr => (if Lr = true then (if Fs.2.2 = 0 then (if (Fs.1 == 3 && (Fs.2.1 == 4)) = true then (some true) else (none)) else (none)) else (none))) else (none)) else (none)) else (none)) else (none)) else (none)) else (none)))))) = some r := by (rw [bi];with_reducible exact H)
 have bX := yf.mk bi;clear bi;obtain ⟨⟨bu,bv,aU⟩,A3,H⟩ := bE H
 try dsimp only at H
 obtain ⟨⟨aC,aV⟩,A4,H⟩ := bE H
 try dsimp only at H
 obtain ⟨⟨aW,aX⟩,A5,H⟩ := bE H
 try dsimp only at H
 obtain ⟨bD,bn⟩ : ∃ y_ : List Bool,y_ = (([true,false,false,false,false] : List Bool)) := ⟨_,rfl⟩
 replace H : ((yY.f k ai ah 1 2 aC 1 bD).bind fun Fs => (if aQ = 0 then (if (az == 4 && (aA == 4)) = true then (if aU = 11 then (if aV = 0 then (if (aC.length : Int) = 1 then (if aX = 0 then ((zF.f k aW (([4] : List Int))).bind fun Lr => (if Lr = true then (if Fs.2.2 = 0 then (if (Fs.1 == 3 && (Fs.2.1 == 4)) = true then (some true) else (none)) else (none)) else (none))) else (none)) else (none)) else (none)) else (none)) else (none)) else (none))) = some r := by (rw [bn];with_reducible exact H)
 have bY := yf.mk bn;clear bn;obtain ⟨⟨aG,aH,aY⟩,A6,H⟩ := bE H
 try dsimp only at H
 by_cases c7 : aQ = 0
 rotate_left
 ·
  rw [if_neg c7] at H;exact absurd H (by simp)
 rw [if_pos c7] at H;have GL := beq_iff_eq.mpr c7
 have O7 : (aQ != 0) = false := bne_eq_false_iff_eq.mpr c7
 clear c7
 by_cases c8 : (az == 4 && (aA == 4)) = true
 rotate_left
 ·
  rw [if_neg c8] at H;exact absurd H (by simp)
 rw [if_pos c8] at H
 have GN : (az == 4 && (aA == 4)) = true := c8
 (try (have Nk : decide (az = 4 && (aA == 4)) = true := by simpa using c8))
 (try (have dm : (az == 4 && (aA == 4)) = true := by simpa using c8))
 clear c8
 by_cases c9 : aU = 11
 rotate_left
 ·
  rw [if_neg c9] at H;exact absurd H (by simp)
 rw [if_pos c9] at H;have I5 := beq_iff_eq.mpr c9
 have Qo : (aU != 11) = false := bne_eq_false_iff_eq.mpr c9
 clear c9
 by_cases c10 : aV = 0
 rotate_left
 ·
  rw [if_neg c10] at H;exact absurd H (by simp)
 rw [if_pos c10] at H;have Fu := beq_iff_eq.mpr c10
 have N9 : (aV != 0) = false := bne_eq_false_iff_eq.mpr c10
 clear c10
 by_cases c11 : (aC.length : Int) = 1
 rotate_left
 ·
  rw [if_neg c11] at H;exact absurd H (by simp)
 rw [if_pos c11] at H;have Fv := beq_iff_eq.mpr c11
 have Oq : ((aC.length : Int) != 1) = false := bne_eq_false_iff_eq.mpr c11
 clear c11
 by_cases c12 : aX = 0
 rotate_left
 ·
  rw [if_neg c12] at H;exact absurd H (by simp)
 rw [if_pos c12] at H;have Gj := beq_iff_eq.mpr c12
 have Ot : (aX != 0) = false := bne_eq_false_iff_eq.mpr c12
 clear c12;obtain ⟨bF,bq⟩ : ∃ y_ : List Int,y_ = (([4] : List Int)) := ⟨_,rfl⟩
 replace H : ((zF.f k aW bF).bind fun Lr => (if Lr = true then (if aY = 0 then (if (aG == 3 && (aH == 4)) = true then (some true) else (none)) else (none)) else (none))) = some r := by (rw [bq];with_reducible exact H)
 have bZ := yf.mk bq;clear bq;obtain ⟨Lr,A13,H⟩ := bE H
 try dsimp only at H
 by_cases c14 : Lr = true
 rotate_left
 ·
  replace c14 := Bool.eq_false_iff.mpr c14;subst c14
  rw [if_neg (show ¬ (false = true) by decide)] at H
  exact absurd H (by simp)
 subst c14;rw [if_pos rfl] at H
 by_cases c15 : aY = 0
 rotate_left
 ·
  rw [if_neg c15] at H;exact absurd H (by simp)
 rw [if_pos c15] at H;have Iy := beq_iff_eq.mpr c15
 have a3y : (aY != 0) = false := bne_eq_false_iff_eq.mpr c15
 clear c15
 by_cases c16 : (aG == 3 && (aH == 4)) = true
 rotate_left
 ·
  rw [if_neg c16] at H;exact absurd H (by simp)
 rw [if_pos c16] at H
 have FC : (aG == 3 && (aH == 4)) = true := c16
 (try (have Ty : decide (aG = 3 && (aH == 4)) = true := by simpa using c16))
 (try (have di : (aG == 3 && (aH == 4)) = true := by simpa using c16))
 clear c16;obtain rfl := Option.some.inj H
 go_enter Tryz.func5,Tryz.ntmps5
 go_wp2_with (first | ((with_reducible refine yz (f := 16) rfl ?_);refine gL (some 12) Tryz.func16 #[.int .i64 5,.int .i64 4] ?_;(with_reducible refine (yo.calls k 5 4 ai ah _ A1.out).mono ?_);rintro e w17 ⟨v397,rfl,ho0,hb⟩;refine ⟨_,rfl,?_⟩;have ae := yf.mk (Kd.FO ho0 (yF (bO HB)));replace HB := bS HB hb;clear hb;clear ho0;obtain ⟨EW,EE,Sq⟩ := Kd.EM ae.out;subst Sq) | ((with_reducible refine yG (N := 1) rfl ?_);(try (refine AX (by rfl) ?_;dsimp only));refine yD rfl (N := 1) rfl (cs := #[.int .i64 0,.slice none 0 0,.int .i64 0,.int .i64 0]) (t := 29) (by go_simp) ?_;intro aK hg w19 yI hb;replace ae := Lj ae hb;have aa := yf.mk (yI);have cZ := bG (w := w) hg;have cu := bG (w := w) hg;replace HB := bS HB hb;clear hb yI hg;have OB := AO aa;have OE := bf aa) | ((with_reducible refine yG (N := 16) rfl ?_);(try (refine AX (by rfl) ?_;dsimp only));refine Kd.JC Kd.bool _ 4 ?hg (N := 16) ?hd (xs := ([true,false,false,false,false] : List Bool)) (inner := [.bool true,.bool false,.bool false,.bool false,.bool false]) (ok := fun _ => True) (okp := fun _ => True) ?hr ?hp (fun _ hk => hk) trivial (Below.refl _ _) (Nat.le_refl _) (by simp) ?_;(case hd => rfl);(case hg => rfl);(case hr => go_simp);(case hp => exact (BQ.one (show Kd.M Kd.bool _ _ _ true [.bool true] from rfl) (BQ.one (show Kd.M Kd.bool _ _ _ false [.bool false] from rfl) (BQ.one (show Kd.M Kd.bool _ _ _ false [.bool false] from rfl) (BQ.one (show Kd.M Kd.bool _ _ _ false [.bool false] from rfl) (BQ.one (show Kd.M Kd.bool _ _ _ false [.bool false] from rfl) (BQ.none _ _)))))));intro v401 w21 PG hb JY DL;clear JY DL;(rw [← bW.out] at PG);replace ae := yf.mk (Kd.Fj (by (with_reducible repeat (apply Kd.Be));exact (Kd.BI (MG (g := aK) (Kd.C8 ae.out aa.out (by decide)) (fun _ hk => hk.2)) (fun _ h_ => h_.1))) hb);have ag := yf.mk (Kd.AC PG (yF (bO HB)));replace aa := yf.mk (yZ (g := aK) (o := .cells #[.int .i64 ai,.slice EW ah.length EE,.int .i64 1,.int .i64 2] 29 (0,0)) (CY aa rfl) hb);replace HB := bS HB hb;clear hb PG;obtain ⟨Yq,YS,Su⟩ := Kd.zB ag.out;subst Su) | ((with_reducible refine yz (f := 17) rfl ?_);refine gL (some 17) Tryz.func17 #[.agg #[.int .i64 ai,.slice EW ah.length EE,.int .i64 1,.int .i64 2],.slice none 0 0,.int .i64 0,.slice Yq bA.length YS] ?_;(refine (yY.calls k ai _ _ ah 1 2 _ _ ([] : List (AP)) 0 _ _ bA az aA aQ _ ?yB ?yC ?zI ?zJ ?En ?Eo A2.out).mono ?_);(case yB => exact QV ae);(case yC => exact (Kd.Cb ae.out).2.1);(case zI => exact Kd.Lu _ _);(case zJ => exact Nat.le_refl _);(case En => exact Jq ag);(case Eo => exact (Kd.zb ag.out).2.1);rintro e w24 ⟨rfl,hb⟩;refine ⟨_,rfl,?_⟩;replace ae := Lj ae hb;replace ag := CR ag hb;replace aa := bB aa hb;replace HB := bS HB hb;clear hb) | ((with_reducible refine yG (N := 2) rfl ?_);(try (refine AX (by rfl) ?_;dsimp only));refine yD rfl (N := 2) rfl (cs := #[.int .i64 0,.int .i64 0]) (t := 51) (by go_simp) ?_;intro aI hg w25 yI hb;have af := yf.mk (yI);have d9 := bG (w := w) hg;have cz := bG (w := w) hg;have bH := Cq aa hg;have bL := Aq aa hg;replace ae := Lj ae hb;replace ag := CR ag hb;replace aa := bB aa hb;replace HB := bS HB hb;clear hb yI hg;have TY := bL.out;have U9 := bH.out;have IC := bc2 af;have II := bf af;have TK := AO aa;have TR := bf aa) | ((with_reducible refine yG (N := 22) rfl ?_);(try (refine AX (by rfl) ?_;dsimp only));refine Kd.JC Kd.bool _ 4 ?hg (N := 22) ?hd (xs := ([false,false,false,false,true] : List Bool)) (inner := [.bool false,.bool false,.bool false,.bool false,.bool true]) (ok := fun _ => True) (okp := fun _ => True) ?hr ?hp (fun _ hk => hk) trivial (Below.refl _ _) (Nat.le_refl _) (by simp) ?_;(case hd => rfl);(case hg => rfl);(case hr => go_simp);(case hp => exact (BQ.one (show Kd.M Kd.bool _ _ _ false [.bool false] from rfl) (BQ.one (show Kd.M Kd.bool _ _ _ false [.bool false] from rfl) (BQ.one (show Kd.M Kd.bool _ _ _ false [.bool false] from rfl) (BQ.one (show Kd.M Kd.bool _ _ _ false [.bool false] from rfl) (BQ.one (show Kd.M Kd.bool _ _ _ true [.bool true] from rfl) (BQ.none _ _)))))));intro v408 w29 aT hb JY DL;clear JY DL;(rw [← bX.out] at aT);have BR := yf.mk (Kd.Fj (by (with_reducible repeat (apply Kd.Be));exact (Kd.BI (MG (g := aI) (Kd.C8 ae.out af.out (by decide)) (fun _ hk => hk.2)) (fun _ h_ => h_.1))) hb);have BS := yf.mk (Kd.Bu (by (with_reducible repeat (apply Kd.zg));exact (Kd.zf (GG (g := aI) (Kd.Bw ag.out af.out (by decide)) (fun _ hk => hk.2)) (fun _ h_ => h_.1))) (Kd.Ba aT) hb);have Ce := yf.mk (Kd.AC (Kd.CV aT (Kd.EL (by (with_reducible repeat (apply Kd.zg));exact (Kd.zf (GG (g := aI) (Kd.Bw ag.out af.out (by decide)) (fun _ hk => hk.2)) (fun _ h_ => h_.1))))) (yF (bO HB)));have CZ := yf.mk (yZ (g := aK) (o := .cells #[.int .i64 ai,.slice EW ah.length EE,.int .i64 1,.int .i64 2] 29 (0,0)) (CY aa rfl) hb);have Dx := yf.mk (yZ (g := aI) (o := .cells #[.int .i64 az,.int .i64 aA] 51 (0,0)) (CY af rfl) hb);have E5 := bS HB hb;clear ae;clear ag;clear aa;clear af;clear HB;have ae := BR;have ag := BS;have ak := Ce;have aa := CZ;have af := Dx;have HB := E5;clear BR BS Ce CZ Dx E5;clear hb aT;obtain ⟨Yr,YT,Wy⟩ := Kd.zB ak.out;subst Wy) | ((with_reducible refine yz (f := 17) rfl ?_);refine gL (some 23) Tryz.func17 #[.agg #[.int .i64 ai,.slice EW ah.length EE,.int .i64 1,.int .i64 2],.slice none 0 0,.int .i64 0,.slice Yr bC.length YT] ?_;(refine (yY.calls k ai _ _ ah 1 2 _ _ ([] : List (AP)) 0 _ _ bC bu bv aU _ ?yB ?yC ?zI ?zJ ?En ?Eo A3.out).mono ?_);(case yB => exact QV ae);(case yC => exact (Kd.Cb ae.out).2.1);(case zI => exact Kd.Lu _ _);(case zJ => exact Nat.le_refl _);(case En => exact Jq ak);(case Eo => exact (Kd.zb ak.out).2.1);rintro e w32 ⟨rfl,hb⟩;refine ⟨_,rfl,?_⟩;replace ae := Lj ae hb;replace ag := CR ag hb;replace ak := CR ak hb;replace aa := bB aa hb;replace af := bB af hb;replace HB := bS HB hb;clear hb) | ((with_reducible refine yG (N := 4) rfl ?_);(try (refine AX (by rfl) ?_;dsimp only));refine yD rfl (N := 4) rfl (cs := #[.int .i64 0,.int .i64 0]) (t := 51) (by go_simp) ?_;intro aJ hg w33 yI hb;have aj := yf.mk (yI);have df := bG (w := w) hg;have cK := bG (w := w) hg;have bI := Cq aa hg;have bP := Aq aa hg;have bM := Cq af hg;have bQ := Aq af hg;replace ae := Lj ae hb;replace ag := CR ag hb;replace ak := CR ak hb;replace aa := bB aa hb;replace af := bB af hb;replace HB := bS HB hb;clear hb yI hg;have U0 := bP.out;have Ub := bI.out;have U1 := bQ.out;have Uc := bM.out;have NC := bc2 aj;have NH := bf aj;have Kv := AO aa;have KD := bf aa) | ((with_reducible refine yz (f := 18) rfl ?_);refine gL (some 30) Tryz.func18 #[.agg #[.int .i64 ai,.slice EW ah.length EE,.int .i64 1,.int .i64 2],.slice none 0 0,.agg #[.int .i64 0,.int .i64 2,.int .i64 4,.int .i64 4]] ?_;(refine (zK.calls k ai _ _ ah 1 2 _ _ ([] : List (AP)) 0 2 4 4 aC aV _ ?yB ?yC ?zI ?zJ A4.out).mono ?_);(case yB => refine (Kd.Cb (e := 37) (base := w.heap.size) (ok := fun k_ => True) (n := ah.length) (c := EE) ?_).2.2;exact (by (with_reducible repeat (apply Kd.Be));exact (Kd.BI (MG (g := aJ) (Kd.C8 ae.out aj.out (by decide)) (fun _ hk => hk.2)) (fun _ h_ => h_.1))));(case yC => exact (Kd.Cb ae.out).2.1);(case zI => exact Kd.Lu _ _);(case zJ => exact Nat.le_refl _);rintro e w38 ⟨v415,rfl,ho0,hb⟩;refine ⟨_,rfl,?_⟩;replace ae := yf.mk (Kd.Fj (by (with_reducible repeat (apply Kd.Be));exact (Kd.BI (MG (g := aJ) (Kd.C8 ae.out aj.out (by decide)) (fun _ hk => hk.2)) (fun _ h_ => h_.1))) hb);replace ag := yf.mk (Kd.Cj (by (with_reducible repeat (apply Kd.zg));exact (Kd.zf (GG (g := aJ) (Kd.Bw ag.out aj.out (by decide)) (fun _ hk => hk.2)) (fun _ h_ => h_.1))) hb);replace ak := yf.mk (Kd.Cj (by (with_reducible repeat (apply Kd.zg));exact (Kd.zf (GG (g := aJ) (Kd.Bw ak.out aj.out (by decide)) (fun _ hk => hk.2)) (fun _ h_ => h_.1))) hb);have au := yf.mk (Kd.AC ho0 (yF (bO HB)));replace aa := yf.mk (yZ (g := aK) (o := .cells #[.int .i64 ai,.slice EW ah.length EE,.int .i64 1,.int .i64 2] 29 (0,0)) (CY aa rfl) hb);replace af := yf.mk (yZ (g := aI) (o := .cells #[.int .i64 az,.int .i64 aA] 51 (0,0)) (CY af rfl) hb);replace aj := yf.mk (yZ (g := aJ) (o := .cells #[.int .i64 bu,.int .i64 bv] 51 (0,0)) (CY aj rfl) hb);replace HB := bS HB hb;clear hb;clear ho0;have a06 := AO aa;have a0j := bf aa;obtain ⟨RB,Sc,Wz⟩ := Kd.zB au.out;subst Wz) | ((with_reducible refine yz (f := 9) rfl ?_);refine gL (some 36) Tryz.func9 #[.agg #[.int .i64 ai,.slice EW ah.length EE,.int .i64 1,.int .i64 2],.slice RB aC.length Sc,.int .i64 4] ?_;(with_reducible refine (D6.calls k ai _ _ ah 1 2 _ _ aC 4 aW aX _ ?yB ?yC ?zI ?zJ A5.out).mono ?_);(case yB => exact QV ae);(case yC => exact (Kd.Cb ae.out).2.1);(case zI => exact Jq au);(case zJ => exact (Kd.zb au.out).2.1);rintro e w41 ⟨v419,rfl,ho0,hb⟩;refine ⟨_,rfl,?_⟩;replace ae := yf.mk (Kd.Gw (kS ae) (Kd.Ba ho0) hb);replace ag := CR ag hb;replace ak := CR ak hb;replace au := CR au hb;have ax := yf.mk (Kd.AC ho0 (yF (bO HB)));replace aa := bB aa hb;replace af := bB af hb;replace aj := bB aj hb;replace HB := bS HB hb;clear hb;clear ho0;have QA := AO aa;have QG := bf aa) | ((with_reducible refine yG (N := 42) rfl ?_);(try (refine AX (by rfl) ?_;dsimp only));refine Kd.JC Kd.bool _ 4 ?hg (N := 42) ?hd (xs := ([true,false,false,false,false] : List Bool)) (inner := [.bool true,.bool false,.bool false,.bool false,.bool false]) (ok := fun _ => True) (okp := fun _ => True) ?hr ?hp (fun _ hk => hk) trivial (Below.refl _ _) (Nat.le_refl _) (by simp) ?_;(case hd => rfl);(case hg => rfl);(case hr => go_simp);(case hp => exact (BQ.one (show Kd.M Kd.bool _ _ _ true [.bool true] from rfl) (BQ.one (show Kd.M Kd.bool _ _ _ false [.bool false] from rfl) (BQ.one (show Kd.M Kd.bool _ _ _ false [.bool false] from rfl) (BQ.one (show Kd.M Kd.bool _ _ _ false [.bool false] from rfl) (BQ.one (show Kd.M Kd.bool _ _ _ false [.bool false] from rfl) (BQ.none _ _)))))));intro v423 w43 aM hb JY DL;clear JY DL;(rw [← bY.out] at aM);have ay := yf.mk (Kd.AC (Kd.CV (Kd.CV aM (Kd.EL (kR ag))) (Kd.EL (kR ak))) (yF (bO HB)));replace ae := Lj ae hb;replace ag := yf.mk (Kd.Bu (kR ag) (Kd.Ba aM) hb);replace ak := yf.mk (Kd.Bu (kR ak) (Kd.Ba aM) hb);replace au := CR au hb;replace ax := CR ax hb;replace aa := bB aa hb;replace af := bB af hb;replace aj := bB aj hb;replace HB := bS HB hb;clear hb aM;obtain ⟨Yt,Wm,WA⟩ := Kd.zB ay.out;subst WA) | ((with_reducible refine yz (f := 17) rfl ?_);refine gL (some 43) Tryz.func17 #[.agg #[.int .i64 ai,.slice EW ah.length EE,.int .i64 1,.int .i64 2],.slice RB aC.length Sc,.int .i64 1,.slice Yt bD.length Wm] ?_;(with_reducible refine (yY.calls k ai _ _ ah 1 2 _ _ aC 1 _ _ bD aG aH aY _ ?yB ?yC ?zI ?zJ ?En ?Eo A6.out).mono ?_);(case yB => exact QV ae);(case yC => exact (Kd.Cb ae.out).2.1);(case zI => exact Jq au);(case zJ => exact (Kd.zb au.out).2.1);(case En => exact Jq ay);(case Eo => exact (Kd.zb ay.out).2.1);rintro e w46 ⟨rfl,hb⟩;refine ⟨_,rfl,?_⟩;replace ae := Lj ae hb;replace ag := CR ag hb;replace ak := CR ak hb;replace au := CR au hb;replace ax := CR ax hb;replace ay := CR ay hb;replace aa := bB aa hb;replace af := bB af hb;replace aj := bB aj hb;replace HB := bS HB hb;clear hb) | ((with_reducible refine yG (N := 10) rfl ?_);(try (refine AX (by rfl) ?_;dsimp only));refine yD rfl (N := 10) rfl (cs := #[.int .i64 0,.int .i64 0]) (t := 51) (by go_simp) ?_;intro aD hg w47 yI hb;have av := yf.mk (yI);have dh := bG (w := w) hg;have cO := bG (w := w) hg;have bJ := Cq aa hg;have bT := Aq aa hg;have bN := Cq af hg;have bU := Aq af hg;have bR := Cq aj hg;have bV := Aq aj hg;replace ae := Lj ae hb;replace ag := CR ag hb;replace ak := CR ak hb;replace au := CR au hb;replace ax := CR ax hb;replace ay := CR ay hb;replace aa := bB aa hb;replace af := bB af hb;replace aj := bB aj hb;replace HB := bS HB hb;clear hb yI hg;have X8 := bT.out;have Xl := bJ.out;have X9 := bU.out;have Xm := bN.out;have QN := bV.out;have QR := bR.out;have WQ := bc2 av;have WV := bf av;have QC := bc2 af;have QI := bf af) | ((with_reducible refine yG (N := 72) rfl ?_);(try (refine AX (by rfl) ?_;dsimp only));refine Kd.JC (Kd.int .i64) _ 3 ?hg (N := 72) ?hd (xs := ([4] : List Int)) (inner := [.int .i64 4]) (ok := fun _ => True) (okp := fun _ => True) ?hr ?hp (fun _ hk => hk) trivial (Below.refl _ _) (Nat.le_refl _) (by simp) ?_;(case hd => rfl);(case hg => rfl);(case hr => go_simp);(case hp => exact (BQ.one (show Kd.M (Kd.int .i64) _ _ _ 4 [.int .i64 4] from rfl) (BQ.none _ _)));intro v430 w53 aN hb JY DL;clear JY DL;(rw [← bZ.out] at aN);have BR := yf.mk (Kd.Gw (by (with_reducible repeat (apply Kd.Be));exact (Kd.BI (MG (g := aD) (Kd.C8 ae.out av.out (by decide)) (fun _ hk => hk.2)) (fun _ h_ => h_.1))) (Kd.Ba aN) hb);have BS := yf.mk (Kd.Cj (by (with_reducible repeat (apply Kd.zg));exact (Kd.zf (GG (g := aD) (Kd.Bw ag.out av.out (by decide)) (fun _ hk => hk.2)) (fun _ h_ => h_.1))) hb);have Ce := yf.mk (Kd.Cj (by (with_reducible repeat (apply Kd.zg));exact (Kd.zf (GG (g := aD) (Kd.Bw ak.out av.out (by decide)) (fun _ hk => hk.2)) (fun _ h_ => h_.1))) hb);have CZ := yf.mk (Kd.Cj (by (with_reducible repeat (apply Kd.zg));exact (Kd.zf (GG (g := aD) (Kd.Bw au.out av.out (by decide)) (fun _ hk => hk.2)) (fun _ h_ => h_.1))) hb);have Dx := yf.mk (Kd.Bu (by (with_reducible repeat (apply Kd.zg));exact (Kd.zf (GG (g := aD) (Kd.Bw ax.out av.out (by decide)) (fun _ hk => hk.2)) (fun _ h_ => h_.1))) (Kd.Ba aN) hb);have E5 := yf.mk (Kd.Cj (by (with_reducible repeat (apply Kd.zg));exact (Kd.zf (GG (g := aD) (Kd.Bw ay.out av.out (by decide)) (fun _ hk => hk.2)) (fun _ h_ => h_.1))) hb);have G6 := yf.mk (Kd.AC (Kd.CV aN (Kd.EL (by (with_reducible repeat (apply Kd.zg));exact (Kd.zf (GG (g := aD) (Kd.Bw ax.out av.out (by decide)) (fun _ hk => hk.2)) (fun _ h_ => h_.1))))) (yF (bO HB)));have GI := yf.mk (yZ (g := aK) (o := .cells #[.int .i64 ai,.slice EW ah.length EE,.int .i64 1,.int .i64 2] 29 (0,0)) (CY aa rfl) hb);have Jb := yf.mk (yZ (g := aI) (o := .cells #[.int .i64 az,.int .i64 aA] 51 (0,0)) (CY af rfl) hb);have Jc := yf.mk (yZ (g := aJ) (o := .cells #[.int .i64 bu,.int .i64 bv] 51 (0,0)) (CY aj rfl) hb);have EG := yf.mk (yZ (g := aD) (o := .cells #[.int .i64 aG,.int .i64 aH] 51 (0,0)) (CY av rfl) hb);have EH := bS HB hb;clear ae;clear ag;clear ak;clear au;clear ax;clear ay;clear aa;clear af;clear aj;clear av;clear HB;have ae := BR;have ag := BS;have ak := Ce;have au := CZ;have ax := Dx;have ay := E5;have aZ := G6;have aa := GI;have af := Jb;have aj := Jc;have av := EG;have HB := EH;clear BR BS Ce CZ Dx E5 G6 GI Jb Jc EG EH;clear hb aN;obtain ⟨a5C,a5V,a1X⟩ := Kd.zB ax.out;subst a1X;obtain ⟨a5D,a5W,a1Y⟩ := Kd.zB aZ.out;subst a1Y) | (go_at_call 11;(with_reducible refine (zF.calls k _ _ aW _ _ bF true _ ?yB ?yC ?zI ?zJ A13.out).mono ?_);(case yB => exact Jq ax);(case yC => exact (Kd.zb ax.out).2.1);(case zI => exact Jq aZ);(case zJ => exact (Kd.zb aZ.out).2.1);rintro e w' ⟨rfl,⟨nd,rfl⟩⟩;have a0a := bc2 av;have a0n := bf av))
 go_ret
 exact ⟨by rfl,bO HB⟩
end Go.Proofs.YtjonnfmoocijlaaGreat.P
namespace Go.Proofs.YtjonnfmoocijlaaGreat.P
open Go.RowKit Go.Proofs.YtjonnfmoocijlaaGreatKW.PrintWords
set_option maxRecDepth 1000000
theorem lo0 : Lo 5 ds0 4 5 4 1 2 := ⟨a5e,by decide,by decide⟩
theorem Mc (l : List Int) (hl : l.length ≤ 1000) : Ev (fun k => zF.f k l l) true := by
 have h0 : ∀ t j : Nat,l.length - j = t → j ≤ l.length → Ev (fun k => zF.l0 k l l (j : Int)) true := by
  intro t
  induction t with
  | zero =>
   intro j ht hj
   exact evs (fun k => by rw [zF.l0]) (BF (by omega) (Ev.now _))
  | succ t ih =>
   intro j ht hj
   have hstep := ih (j + 1) (by omega) (by omega)
   refine evs (fun k => by rw [zF.l0]) (AA (by omega) (AA (by omega) (AA (by omega) (AA rfl ?_))))
   rw [vv j (by omega)]
   exact hstep
 unfold zF.f
 exact AA rfl (h0 _ 0 rfl (Nat.zero_le _))
theorem TH {α : Type} {F : Nat → Option α} {a b : α} (h : Ev F a) (e : a = b) : Ev F b := e ▸ h
theorem Q8 : Ev (fun k => AL.f k) true := by
 have hm : Ij 5 ds0 4 5 4 1 2 [] ⟨0,2,⟨4,4⟩⟩ = ([⟨0,2,⟨4,4⟩⟩],0) := by kernel_rfl
 have hv : VM 5 ds0 4 5 4 1 2 [⟨0,2,⟨4,4⟩⟩] := of_decide_eq_true (by kernel_rfl)
 have e1 : Ev (fun k => yY.f k 5 ds0 1 2 [] 0 [true,false,false,false,false]) (4,4,0) := TH (lo0.Pq [] (by decide) lo0.PY 0 [true,false,false,false,false] rfl) (by kernel_rfl)
 have e2 : Ev (fun k => yY.f k 5 ds0 1 2 [] 0 [false,false,false,false,true]) (0,0,11) := TH (lo0.Pq [] (by decide) lo0.PY 0 [false,false,false,false,true] rfl) (by kernel_rfl)
 have e3 : Ev (fun k => zK.f k 5 ds0 1 2 [] 0 2 4 4) ([⟨0,2,⟨4,4⟩⟩],0) := TH (lo0.a1G [] (by decide) lo0.PY ⟨0,2,⟨4,4⟩⟩) hm
 have e4 : Ev (fun k => yY.f k 5 ds0 1 2 [⟨0,2,⟨4,4⟩⟩] 1 [true,false,false,false,false]) (3,4,0) := TH (lo0.Pq [⟨0,2,⟨4,4⟩⟩] (by decide) hv 1 [true,false,false,false,false] rfl) (by kernel_rfl)
 have e5 : Ev (fun k => D6.f k 5 ds0 1 2 [⟨0,2,⟨4,4⟩⟩] 4) ([4],0) := by
  unfold D6.f
  refine Ep (lo0.check [⟨0,2,⟨4,4⟩⟩] (by decide)) ?_
  rw [if_pos hv]
  exact AA rfl (BF (by decide) (BF (by decide) (Ep (KR [⟨0,2,⟨4,4⟩⟩] (by decide) _ _ _ _ _ _ _) (Ev.now _))))
 unfold AL.f
 refine Ep (Qt (fun k => yo.mono _ _ k) cmp0) ?_
 refine Ep e1 (Ep e2 (Ep e3 (Ep e5 (Ep e4 ?_))))
 exact AA rfl (AA rfl (AA rfl (AA rfl (AA rfl (AA rfl (Ep (Mc [4] (by decide)) (AA rfl (AA rfl (AA rfl (Ev.now _))))))))))
end Go.Proofs.YtjonnfmoocijlaaGreat.P
