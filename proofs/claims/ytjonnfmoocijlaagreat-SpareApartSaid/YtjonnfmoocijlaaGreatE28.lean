/- Texts of a claim, packed. -/
import Derived.Test.YtjonnfmoocijlaaGreatE27
set_option linter.all false
namespace Go.Proofs.YtjonnfmoocijlaaGreat.P
open Go.RowKit Go.Proofs.YtjonnfmoocijlaaGreatKW.PrintWords Go.Proofs.YtjonnfmoocijlaaGreatKW.PrintLast Go.Proofs.YtjonnfmoocijlaaGreatKW.PrintMore
attribute [local go_sem] zN zP Af Ag zz zA zO zQ
mutual
def yY.j0 : Nat → Int → List Bool → Bool → Int → List (List Int) → Int → Int → Int → List (List Int) → Int → Int → List (AP) → Int → Int → Option (Int × Int × Int)
 | 0,_,_,_,_,_,_,_,_,_,_,_,_,_,_ => none
 | k + 1,x2,x3,x26,au,ax,ay,av,af,ag,ah,ai,aj,ae,ak => if x26 = true then (some (0,0,1)) else (if x2 < 0 then (some (0,0,2)) else ((CG.f k au ax ay av).bind fun PW => (if x2 ≥ PW then (some (0,0,2)) else ((yM.f k af ag ah ai aj ae ak x2).bind fun Jg => (yY.l0 k x3 Jg (-1) av au 0 af ag ah ai aj ae ak)))))
def yY.l0 : Nat → List Bool → List Int → Int → Int → Int → Int → Int → List (List Int) → Int → Int → List (AP) → Int → Int → Option (Int × Int × Int)
 | 0,_,_,_,_,_,_,_,_,_,_,_,_,_ => none
 | k + 1,x3,F5,G8,IQ,x55,aa,af,ag,ah,ai,aj,ae,ak => if aa < x55 then ((zR.f k af ag ah ai aj ae ak aa).bind fun K4 => (if 0 ≤ aa then (if aa < (x3.length : Int) then (if Ir false x3 aa = true then (yY.j2 k x3 F5 G8 IQ aa (K4.length : Int) x55 aa false af ag ah ai aj ae ak) else ((slices_Contains_int.f k F5 aa).bind fun XR => (if XR = true then (yY.j2 k x3 F5 G8 IQ aa (K4.length : Int) x55 aa false af ag ah ai aj ae ak) else (yY.j2 k x3 F5 G8 IQ aa (K4.length : Int) x55 aa (decide ((K4.length : Int) < IQ)) af ag ah ai aj ae ak)))) else (none)) else (none))) else (if G8 < 0 then (some (0,0,11)) else ((zR.f k af ag ah ai aj ae ak G8).bind fun IM => (yY.l1 k G8 ae IM (IM.length : Int) 0)))
def yY.j2 : Nat → List Bool → List Int → Int → Int → Int → Int → Int → Int → Bool → Int → List (List Int) → Int → Int → List (AP) → Int → Int → Option (Int × Int × Int)
 | 0,_,_,_,_,_,_,_,_,_,_,_,_,_,_,_,_ => none
 | k + 1,x3,F5,G8,IQ,KT,P6,x55,aa,az,af,ag,ah,ai,aj,ae,ak => if az = true then (yY.l0 k x3 F5 KT P6 x55 (wrap64 (aa + 1)) af ag ah ai aj ae ak) else (yY.l0 k x3 F5 G8 IQ x55 (wrap64 (aa + 1)) af ag ah ai aj ae ak)
def yY.l1 : Nat → Int → Int → List Int → Int → Int → Option (Int × Int × Int)
 | 0,_,_,_,_,_ => none
 | k + 1,G8,Rx,x89,x90,x91 => if x91 < x90 then (if 0 ≤ x91 then (if x91 < (x89.length : Int) then (if (rd x89 x91) = Rx then (yY.l1 k G8 (wrap64 (Rx + 1)) x89 x90 (wrap64 (x91 + 1))) else (yY.l1 k G8 Rx x89 x90 (wrap64 (x91 + 1)))) else (none)) else (none)) else (some (G8,Rx,0))
end
def yY.f (k : Nat) (yj : Int) (yg : List (List Int)) (ym : Int) (yn : Int) (l1 : List (AP)) (a2 : Int) (l3 : List Bool) : Option (Int × Int × Int) := (yS.f k yj yg ym yn l1).bind fun DJ => (if DJ.2.2.2.2.2.2.2 = true then (yY.j0 k a2 l3 ((l3.length : Int) != yj) yj yg ym yn DJ.1 DJ.2.1 DJ.2.2.1 DJ.2.2.2.1 DJ.2.2.2.2.1 DJ.2.2.2.2.2.1 DJ.2.2.2.2.2.2.1) else (yY.j0 k a2 l3 true yj yg ym yn DJ.1 DJ.2.1 DJ.2.2.1 DJ.2.2.2.1 DJ.2.2.2.2.1 DJ.2.2.2.2.2.1 DJ.2.2.2.2.2.2.1))
set_option maxHeartbeats 8000000 in
set_option maxRecDepth 100000 in
theorem yY.calls (k : Nat) (yj : Int) (yK : Option Addr) (yE : Nat) (yg : List (List Int)) (ym : Int) (yn : Int) (A1 : Option Addr) (c1 : Nat) (l1 : List (AP)) (a2 : Int) (A3 : Option Addr) (c3 : Nat) (l3 : List Bool) (r1 : Int) (r2 : Int) (r3 : Int) (w : World) (zS : Kd.C (Kd.slice 3 (Kd.int .i64)) w yK yg.length yg) (zT : yg.length ≤ yE) (hr1 : Kd.C DN w A1 l1.length l1) (hc1 : l1.length ≤ c1) (hr3 : Kd.C Kd.bool w A3 l3.length l3) (hc3 : l3.length ≤ c3) (h : yY.f k yj yg ym yn l1 a2 l3 = some (r1,r2,r3)) :
  Calls Tryz.prog 17 #[.agg #[.int .i64 yj,.slice yK yg.length yE,.int .i64 ym,.int .i64 yn],.slice A1 l1.length c1,.int .i64 a2,.slice A3 l3.length c3] w fun e w' => e = .returned (.tuple #[.agg #[.int .i64 r1,.int .i64 r2],.int .i64 r3]) ∧ Below w.heap.size w w' := by
 have ET := Tryz.underlying29;have KE := Tryz.underlying51;have Mq := Tryz.underlying65;have zk := yf.mk zS;have zq := yf.mk zT;clear zS zT;have HR1 := yf.mk hr1;have Gt := yf.mk hc1;clear hr1 hc1;have HR3 := yf.mk hr3;have HC3 := yf.mk hc3;clear hr3 hc3;have HB := yf.mk (Below.refl w.heap.size w)
 have H : ((yS.f k yj yg ym yn l1).bind fun DJ => (if DJ.2.2.2.2.2.2.2 = true then (yY.j0 k a2 l3 ((l3.length : Int) != yj) yj yg ym yn DJ.1 DJ.2.1 DJ.2.2.1 DJ.2.2.2.1 DJ.2.2.2.2.1 DJ.2.2.2.2.2.1 DJ.2.2.2.2.2.2.1) else (yY.j0 k a2 l3 true yj yg ym yn DJ.1 DJ.2.1 DJ.2.2.1 DJ.2.2.2.1 DJ.2.2.2.2.1 DJ.2.2.2.2.2.1 DJ.2.2.2.2.2.2.1))) = some (r1,r2,r3) := h
 clear h;obtain ⟨⟨az,aj,aA,aC,ak,ax,aD,bX⟩,A5,H⟩ := bE H
 try dsimp only at H
 have bP := yf.mk H;clear H
 go_enter Tryz.func17,Tryz.ntmps17
 go_upto_region 2 with (first | ((with_reducible refine yG (N := 4) rfl ?_);(try (refine AX (by rfl) ?_;dsimp only));refine yD rfl (N := 4) rfl (cs := #[.int .i64 yj,.slice yK yg.length yE,.int .i64 ym,.int .i64 yn]) (t := 29) (by go_simp) ?_;intro ay hg w7 yI hb;have ae := yf.mk (yI);have aY := bG (w := w) hg;have bT := bG (w := w) hg;replace HB := bS HB hb;clear hb yI hg) | ((with_reducible refine yG (N := 8) rfl ?_);(try (refine AX (by rfl) ?_;dsimp only));refine yD rfl (N := 8) rfl (cs := #[.int .i64 0,.int .i64 0]) (t := 51) (by go_simp) ?_;intro av hg w8 yI hb;have aa := yf.mk (yI);have bF := bG (w := w) hg;have dm := bG (w := w) hg;have aT := Cq ae hg;have aU := Aq ae hg;replace ae := bB ae hb;replace HB := bS HB hb;clear hb yI hg;have a4z := aT.out;have a4T := aU.out;have Kr := AO ae;have Kz := bf ae) | (go_at_call 22;(with_reducible refine (yS.calls k yj (fun k_ => k_ < w.heap.size) _ _ yg ym yn (fun k_ => k_ < w.heap.size) _ _ l1 az aj aA aC ak ax aD bX _ ?yB ?yC A5.out).mono ?_);(case yB => exact Kd.EA zq.out (Kd.Bq (Kd.IV (Kd.BA 3 (Kd.BV .i64)) zk.out) (bO HB)));(case yC => exact Kd.EA Gt.out (Kd.Bq (Kd.IV Em HR1.out) (bO HB)));rintro e w11 ⟨v278,v283,rfl,ho0,ho1,hb⟩;have bu := yf.mk (Kd.Aw (Kd.yL (ok' := fun k_ => k_ ≠ ay ∧ k_ ≠ av) ho0 (fun k_ Cg => ⟨Or.elim Cg (fun hs_ => Or.elim hs_ (fun hs_ => fun e_ => Nat.not_le.2 hs_ (by rw [e_];exact aY.out)) (fun hs_ => fun e_ => Nat.not_le.2 hs_ (by rw [e_];exact aY.out))) (fun Cm => (Kd.Ac (g := ay) (o := .cells #[.int .i64 yj,.slice yK yg.length yE,.int .i64 ym,.int .i64 yn] 29 (0,0)) (kk ae) k_ Cm)),Or.elim Cg (fun hs_ => Or.elim hs_ (fun hs_ => fun e_ => Nat.not_le.2 hs_ (by rw [e_];exact bF.out)) (fun hs_ => fun e_ => Nat.not_le.2 hs_ (by rw [e_];exact bF.out))) (fun Cm => (Kd.Ac (g := av) (o := .cells #[.int .i64 0,.int .i64 0] 51 (0,0)) (kk aa) k_ Cm))⟩)) (yF (bO HB)));have bv := yf.mk (Kd.Aw (Kd.yL (ok' := fun k_ => k_ ≠ ay ∧ k_ ≠ av) ho1 (fun k_ Cg => ⟨Or.elim Cg (fun hs_ => Or.elim hs_ (fun hs_ => fun e_ => Nat.not_le.2 hs_ (by rw [e_];exact aY.out)) (fun hs_ => fun e_ => Nat.not_le.2 hs_ (by rw [e_];exact aY.out))) (fun Cm => (Kd.Ac (g := ay) (o := .cells #[.int .i64 yj,.slice yK yg.length yE,.int .i64 ym,.int .i64 yn] 29 (0,0)) (kk ae) k_ Cm)),Or.elim Cg (fun hs_ => Or.elim hs_ (fun hs_ => fun e_ => Nat.not_le.2 hs_ (by rw [e_];exact bF.out)) (fun hs_ => fun e_ => Nat.not_le.2 hs_ (by rw [e_];exact bF.out))) (fun Cm => (Kd.Ac (g := av) (o := .cells #[.int .i64 0,.int .i64 0] 51 (0,0)) (kk aa) k_ Cm))⟩)) (yF (bO HB)));replace ae := bB ae hb;replace aa := bB aa hb;replace HB := bS HB hb;clear hb;clear ho0;clear ho1) | ((with_reducible refine yG (N := 10) rfl ?_);(try (refine AX (by rfl) ?_;dsimp only));refine yD rfl (N := 10) rfl (cs := #[.int .i64 0,.slice none 0 0,.int .i64 0,.int .i64 0,.slice none 0 0,.int .i64 0,.int .i64 0]) (t := 65) (by go_simp) ?_;intro au hg w12 yI hb;have af := yf.mk (yI);have dw := bG (w := w) hg;have dn := bG (w := w) hg;have bg := Cq ae hg;have bi := Aq ae hg;have aH := Cq aa hg;have aI := Aq aa hg;replace bu := yf.mk (Kd.zw (Kd.zD (kV bu) au (Nat.le_of_eq hg.symm)) hb);replace bv := yf.mk (Kd.zw (Kd.zD (kV bv) au (Nat.le_of_eq hg.symm)) hb);replace ae := bB ae hb;replace aa := bB aa hb;replace HB := bS HB hb;clear hb yI hg;have WZ := bi.out;have Xe := bg.out;have a4h := aI.out;have a4B := aH.out;have Qz := Fy af;have QF := bf af;obtain ⟨P7,Pw,a1O⟩ := Kd.Ay bu.out;subst a1O;obtain ⟨IU,IK,Wv⟩ := Kd.Ay bv.out;subst Wv))
 repeat (go_quiet (((with_reducible refine yG (N := 4) rfl ?_);(try (refine AX (by rfl) ?_;dsimp only));refine yD rfl (N := 4) rfl (cs := #[.int .i64 yj,.slice yK yg.length yE,.int .i64 ym,.int .i64 yn]) (t := 29) (by go_simp) ?_;intro ay hg w7 yI hb;have ae := yf.mk (yI);have aY := bG (w := w) hg;have bT := bG (w := w) hg;replace HB := bS HB hb;clear hb yI hg));go_upto_region 2 with (((with_reducible refine yG (N := 4) rfl ?_);(try (refine AX (by rfl) ?_;dsimp only));refine yD rfl (N := 4) rfl (cs := #[.int .i64 yj,.slice yK yg.length yE,.int .i64 ym,.int .i64 yn]) (t := 29) (by go_simp) ?_;intro ay hg w7 yI hb;have ae := yf.mk (yI);have aY := bG (w := w) hg;have bT := bG (w := w) hg;replace HB := bS HB hb;clear hb yI hg)))
 (try simp only [pz])
 go_cut [26] (fun v26 wc => ∃ (kq : Nat) (bJ : Bool),v26 = .bool bJ ∧ yf (yY.j0 kq a2 l3 bJ yj yg ym yn az aj aA aC ak ax aD = some (r1,r2,r3)) ∧ yf (kq ≤ k) ∧ yf (Kd.V (Kd.slice 3 (Kd.int .i64)) 37 wc w.heap.size (fun k_ => k_ ≠ ay ∧ k_ ≠ av ∧ k_ ≠ au) (.slice P7 aj.length Pw) aj) ∧ yf (Kd.V DN 60 wc w.heap.size (fun k_ => k_ ≠ ay ∧ k_ ≠ av ∧ k_ ≠ au) (.slice IU ak.length IK) ak) ∧ yf (wc.heap[ay]? = some (.cells #[.int .i64 yj,(.slice yK yg.length yE),.int .i64 ym,.int .i64 yn] 29 (0,0))) ∧ yf (wc.heap[av]? = some (.cells #[.int .i64 0,.int .i64 0] 51 (0,0))) ∧ yf (wc.heap[au]? = some (.cells #[.int .i64 az,(.slice P7 aj.length Pw),.int .i64 aA,.int .i64 aC,(.slice IU ak.length IK),.int .i64 ax,.int .i64 aD] 65 (0,0))) ∧ yf (Below w.heap.size w wc))
 case first =>
  have H := bP.out;clear bP
  by_cases c18 : bX = true
  rotate_left
  ·
   replace c18 := Bool.eq_false_iff.mpr c18;subst c18
   rw [if_neg (show ¬ (false = true) by decide)] at H
   have H' := yf.mk H;clear H
   go_wp2
   repeat (go_quiet (fail);try go_wp2)
   go_meet
   case rel => exact ⟨_,(true),(by rfl),H',⟨by omega⟩,⟨by (with_reducible repeat (apply Kd.zu));exact Kd.yL (EB (g := au) (Kd.yL bu.out (fun k_ hk => (⟨hk,hk.2⟩ : _ ∧ k_ ≠ au))) (fun _ hk => hk.2)) (fun _ hk => ⟨hk.1.1.1,⟨hk.1.1.2,hk.1.2⟩⟩)⟩,⟨by (with_reducible repeat (apply Kd.zu));exact Kd.yL (EB (g := au) (Kd.yL bv.out (fun k_ hk => (⟨hk,hk.2⟩ : _ ∧ k_ ≠ au))) (fun _ hk => hk.2)) (fun _ hk => ⟨hk.1.1.1,⟨hk.1.1.2,hk.1.2⟩⟩)⟩,bK ae rfl,bK aa rfl,bK af rfl,⟨bO HB⟩⟩
  subst c18;rw [if_pos rfl] at H;have H' := yf.mk H;clear H;have a0u := aT.out;have a0L := aU.out;have QK := bg.out;have QO := bi.out;have JH := AO ae;have JJ := bf ae
  go_wp2
  repeat (go_quiet (fail);try go_wp2)
  go_meet
  case rel => exact ⟨_,(((l3.length : Int) != yj)),(by rfl),H',⟨by omega⟩,⟨by (with_reducible repeat (apply Kd.zu));exact Kd.yL (EB (g := au) (Kd.yL bu.out (fun k_ hk => (⟨hk,hk.2⟩ : _ ∧ k_ ≠ au))) (fun _ hk => hk.2)) (fun _ hk => ⟨hk.1.1.1,⟨hk.1.1.2,hk.1.2⟩⟩)⟩,⟨by (with_reducible repeat (apply Kd.zu));exact Kd.yL (EB (g := au) (Kd.yL bv.out (fun k_ hk => (⟨hk,hk.2⟩ : _ ∧ k_ ≠ au))) (fun _ hk => hk.2)) (fun _ hk => ⟨hk.1.1.1,⟨hk.1.1.2,hk.1.2⟩⟩)⟩,bK ae rfl,bK aa rfl,bK af rfl,⟨bO HB⟩⟩
 case rest =>
 clear bP Kr Qz Kz QF;obtain ⟨kq,bJ,rfl,HA,aJ,ag,ah,ae,aa,af,HB⟩ := hcut
 cases kq with
 | zero => exact absurd HA.out (by simp [yY.j0])
 | succ aQ =>
  have H := HA.out;clear HA;simp only [yY.j0] at H
  by_cases I4 : bJ = true
  ·
   subst I4;rw [if_pos rfl] at H;simp only [Option.some.injEq,Prod.mk.injEq] at H;obtain ⟨rfl,rfl,rfl⟩ := H;have a4i := aU.out;have a4C := aT.out;have TW := aH.out;have U8 := aI.out;have LU := bc2 aa;have LX := bf aa
   go_wp2
   repeat (go_quiet (fail);try go_wp2)
   refine bodyPost_ret (BB rfl _ _ av 51 #[.int .i64 0,.int .i64 0] (0,0) _ rfl (CY aa rfl) Tryz.underlying51 rfl (by kernel_rfl)) rfl ?_
   exact ⟨by rfl,bO HB⟩
  ·
   replace I4 := Bool.eq_false_iff.mpr I4;subst I4
   rw [if_neg (show ¬ (false = true) by decide)] at H
   by_cases K7 : a2 < 0
   ·
    rw [if_pos K7] at H;have Nf := decide_eq_true K7;clear K7;simp only [Option.some.injEq,Prod.mk.injEq] at H;obtain ⟨rfl,rfl,rfl⟩ := H;have a4j := aU.out;have a4D := aT.out;have a4k := aH.out;have a4E := aI.out;have WO := bc2 aa;have WT := bf aa
    go_wp2
    repeat (go_quiet (fail);try go_wp2)
    refine bodyPost_ret (BB rfl _ _ av 51 #[.int .i64 0,.int .i64 0] (0,0) _ rfl (CY aa rfl) Tryz.underlying51 rfl (by kernel_rfl)) rfl ?_
    exact ⟨by rfl,bO HB⟩
   ·
    rw [if_neg K7] at H;have Nf := decide_eq_false K7;clear K7;obtain ⟨PW,ZA,H⟩ := bE H
    try dsimp only at H
    by_cases c31 : a2 ≥ PW
    ·
     rw [if_pos c31] at H;have Ox := decide_eq_true c31;clear c31;simp only [Option.some.injEq,Prod.mk.injEq] at H;obtain ⟨rfl,rfl,rfl⟩ := H;have QL := aT.out;have QP := aU.out;have X6 := bg.out;have Xj := bi.out;have NA := AO ae;have NG := bf ae
     go_wp2_with ((go_at_call 35;(with_reducible refine (CG.calls aQ yj _ _ yg ym yn PW _ ?yB ?yC ZA.out).mono ?_);(case yB => exact CU zk);(case yC => exact zq.out);rintro e w35 ⟨rfl,hb⟩;replace ag := MH ag hb;replace ah := MH ah hb;replace ae := bB ae hb;replace aa := bB aa hb;replace af := bB af hb;replace HB := bS HB hb;clear hb;have U2 := aH.out;have Ud := aI.out;have Kv := bc2 aa;have KD := bf aa))
     repeat (go_quiet ((go_at_call 35;(with_reducible refine (CG.calls aQ yj _ _ yg ym yn PW _ ?yB ?yC ZA.out).mono ?_);(case yB => exact CU zk);(case yC => exact zq.out);rintro e w35 ⟨rfl,hb⟩;replace ag := MH ag hb;replace ah := MH ah hb;replace ae := bB ae hb;replace aa := bB aa hb;replace af := bB af hb;replace HB := bS HB hb;have U2 := aH.out;have Ud := aI.out;have Kv := bc2 aa;have KD := bf aa));try go_wp2_with ((go_at_call 35;(with_reducible refine (CG.calls aQ yj _ _ yg ym yn PW _ ?yB ?yC ZA.out).mono ?_);(case yB => exact CU zk);(case yC => exact zq.out);rintro e w35 ⟨rfl,hb⟩;replace ag := MH ag hb;replace ah := MH ah hb;replace ae := bB ae hb;replace aa := bB aa hb;replace af := bB af hb;replace HB := bS HB hb;have U2 := aH.out;have Ud := aI.out;have Kv := bc2 aa;have KD := bf aa)))
     refine bodyPost_ret (BB rfl _ _ av 51 #[.int .i64 0,.int .i64 0] (0,0) _ rfl (CY aa rfl) Tryz.underlying51 rfl (by kernel_rfl)) rfl ?_
     exact ⟨by rfl,bO HB⟩
    ·
     rw [if_neg c31] at H;have Ox := decide_eq_false c31;clear c31;obtain ⟨Jg,bY,H⟩ := bE H
     try dsimp only at H
     have H' := yf.mk H;clear H;have U3 := aT.out;have Ue := aU.out;have a0w := bg.out;have a0N := bi.out;have OC := AO ae;have OG := bf ae
     go_wp2_with (first | (go_at_call 35;(with_reducible refine (CG.calls aQ yj _ _ yg ym yn PW _ ?yB ?yC ZA.out).mono ?_);(case yB => exact CU zk);(case yC => exact zq.out);rintro e w42 ⟨rfl,hb⟩;replace ag := MH ag hb;replace ah := MH ah hb;replace ae := bB ae hb;replace aa := bB aa hb;replace af := bB af hb;replace HB := bS HB hb;clear hb;have X7 := aI.out;have Xk := aH.out;have QB := Fy af;have QH := bf af) | (go_at_call 36;(with_reducible refine (yM.calls aQ az _ _ aj aA aC _ _ ak ax aD a2 Jg _ ?yB ?yC ?zI ?zJ bY.out).mono ?_);(case yB => exact MI ag);(case yC => exact (Kd.zH ag.out).2.1);(case zI => exact MI ah);(case zJ => exact (Kd.zH ah.out).2.1);rintro e w45 ⟨v291,rfl,ho0,hb⟩;replace ag := yf.mk (Kd.CO (kV ag) (Kd.Ba ho0) hb);replace ah := yf.mk (Kd.CO (kV ah) (Kd.Ba ho0) hb);have bZ := yf.mk (Kd.AC ho0 (yF (bO HB)));replace ae := bB ae hb;replace aa := bB aa hb;replace af := bB af hb;replace HB := bS HB hb;clear hb;clear ho0;have TL := AO ae;have TS := bf ae))
     repeat (go_quiet ((go_at_call 35;(with_reducible refine (CG.calls aQ yj _ _ yg ym yn PW _ ?yB ?yC ZA.out).mono ?_);(case yB => exact CU zk);(case yC => exact zq.out);rintro e w42 ⟨rfl,hb⟩;replace ag := MH ag hb;replace ah := MH ah hb;replace ae := bB ae hb;replace aa := bB aa hb;replace af := bB af hb;replace HB := bS HB hb;have X7 := aI.out;have Xk := aH.out;have QB := Fy af;have QH := bf af));try go_wp2_with ((go_at_call 35;(with_reducible refine (CG.calls aQ yj _ _ yg ym yn PW _ ?yB ?yC ZA.out).mono ?_);(case yB => exact CU zk);(case yC => exact zq.out);rintro e w42 ⟨rfl,hb⟩;replace ag := MH ag hb;replace ah := MH ah hb;replace ae := bB ae hb;replace aa := bB aa hb;replace af := bB af hb;replace HB := bS HB hb;have X7 := aI.out;have Xk := aH.out;have QB := Fy af;have QH := bf af)))
     go_loopg [13,14,56] aQ (fun kq v13 v14 v56 w' => ∃ (Cy : Int) (FD : Int) (ai : Int),v13 = .int .i64 Cy ∧ v14 = .int .i64 FD ∧ v56 = .int .i64 ai ∧ yf (yY.l0 kq l3 Jg Cy FD yj ai az aj aA aC ak ax aD = some (r1,r2,r3)) ∧ yf (kq ≤ aQ) ∧ yf (Kd.R (Kd.int .i64) 3 w' w.heap.size (fun _ => True) v291 Jg) ∧ yf (Kd.V (Kd.slice 3 (Kd.int .i64)) 37 w' w.heap.size (fun k_ => some k_ ≠ (v291 : Value).ownBlock ∧ k_ ≠ ay ∧ k_ ≠ av ∧ k_ ≠ au) (.slice P7 aj.length Pw) aj) ∧ yf (Kd.V DN 60 w' w.heap.size (fun k_ => some k_ ≠ (v291 : Value).ownBlock ∧ k_ ≠ ay ∧ k_ ≠ av ∧ k_ ≠ au) (.slice IU ak.length IK) ak) ∧ yf (w'.heap[ay]? = some (.cells #[.int .i64 yj,(.slice yK yg.length yE),.int .i64 ym,.int .i64 yn] 29 (0,0))) ∧ yf (w'.heap[av]? = some (.cells #[.int .i64 0,.int .i64 0] 51 (0,0))) ∧ yf (w'.heap[au]? = some (.cells #[.int .i64 az,(.slice P7 aj.length Pw),.int .i64 aA,.int .i64 aC,(.slice IU ak.length IK),.int .i64 ax,.int .i64 aD] 65 (0,0))) ∧ yf (Below w.heap.size w w'))
     case atStart => exact ⟨((-1)),(yn),(0),(by rfl),(by rfl),(by rfl),H',⟨Nat.le_refl _⟩,⟨kR bZ⟩,⟨by (with_reducible repeat (apply Kd.Jo));exact Kd.yL ag.out (fun _ hk => ⟨hk.2,⟨hk.1.1,⟨hk.1.2.1,hk.1.2.2⟩⟩⟩)⟩,⟨by (with_reducible repeat (apply Kd.Jo));exact Kd.yL ah.out (fun _ hk => ⟨hk.2,⟨hk.1.1,⟨hk.1.2.1,hk.1.2.2⟩⟩⟩)⟩,⟨kk ae⟩,⟨kk aa⟩,⟨kk af⟩,⟨bO HB⟩⟩
     case round =>
      clear H' Nf Ox OC QB TL OG QH TS;obtain ⟨Cy,FD,ai,rfl,rfl,rfl,HA,Di,Bb,ag,ah,ae,aa,af,HB⟩ := hrel
      cases gk with
      | zero => exact absurd HA.out (by simp [yY.l0])
      | succ k2 =>
       have H := HA.out;clear HA;simp only [yY.l0] at H
       by_cases IR : ai < yj
       ·
        rw [if_pos IR] at H;have Km := decide_eq_true IR;clear IR;obtain ⟨K4,bM,H⟩ := bE H
        try dsimp only at H
        have bN := yf.mk H;clear H;have QN := bi.out;have QR := bg.out;have U6 := aI.out;have Uh := aH.out;have QC := Fy af;have QI := bf af
        go_upto_region 12 with ((go_at_call 29;(with_reducible refine (zR.calls k2 az _ _ aj aA aC _ _ ak ax aD ai K4 _ ?yB ?yC ?zI ?zJ bM.out).mono ?_);(case yB => exact MI ag);(case yC => exact (Kd.zH ag.out).2.1);(case zI => exact MI ah);(case zJ => exact (Kd.zH ah.out).2.1);rintro e w53 ⟨v294,rfl,ho0,hb⟩;have bA := yf.mk (Kd.AC (Kd.CV ho0 (Kd.EL (kR Bb))) (yF (bO HB)));replace Bb := yf.mk (Kd.Bu (kR Bb) (Kd.Ba ho0) hb);replace ag := yf.mk (Kd.CO (kV ag) (Kd.Ba ho0) hb);replace ah := yf.mk (Kd.CO (kV ah) (Kd.Ba ho0) hb);replace ae := bB ae hb;replace aa := bB aa hb;replace af := bB af hb;replace HB := bS HB hb;clear hb;clear ho0;obtain ⟨a1g,a1L,SB⟩ := Kd.zB bA.out;subst SB))
        repeat (go_quiet ((go_at_call 29;(with_reducible refine (zR.calls k2 az _ _ aj aA aC _ _ ak ax aD ai K4 _ ?yB ?yC ?zI ?zJ bM.out).mono ?_);(case yB => exact MI ag);(case yC => exact (Kd.zH ag.out).2.1);(case zI => exact MI ah);(case zJ => exact (Kd.zH ah.out).2.1);rintro e w53 ⟨v294,rfl,ho0,hb⟩;have bA := yf.mk (Kd.AC (Kd.CV ho0 (Kd.EL (kR Bb))) (yF (bO HB)));replace Bb := yf.mk (Kd.Bu (kR Bb) (Kd.Ba ho0) hb);replace ag := yf.mk (Kd.CO (kV ag) (Kd.Ba ho0) hb);replace ah := yf.mk (Kd.CO (kV ah) (Kd.Ba ho0) hb);replace ae := bB ae hb;replace aa := bB aa hb;replace af := bB af hb;replace HB := bS HB hb;obtain ⟨a1g,a1L,SB⟩ := Kd.zB bA.out;subst SB));go_upto_region 12 with ((go_at_call 29;(with_reducible refine (zR.calls k2 az _ _ aj aA aC _ _ ak ax aD ai K4 _ ?yB ?yC ?zI ?zJ bM.out).mono ?_);(case yB => exact MI ag);(case yC => exact (Kd.zH ag.out).2.1);(case zI => exact MI ah);(case zJ => exact (Kd.zH ah.out).2.1);rintro e w53 ⟨v294,rfl,ho0,hb⟩;have bA := yf.mk (Kd.AC (Kd.CV ho0 (Kd.EL (kR Bb))) (yF (bO HB)));replace Bb := yf.mk (Kd.Bu (kR Bb) (Kd.Ba ho0) hb);replace ag := yf.mk (Kd.CO (kV ag) (Kd.Ba ho0) hb);replace ah := yf.mk (Kd.CO (kV ah) (Kd.Ba ho0) hb);replace ae := bB ae hb;replace aa := bB aa hb;replace af := bB af hb;replace HB := bS HB hb;obtain ⟨a1g,a1L,SB⟩ := Kd.zB bA.out;subst SB)))
        (try simp only [pz])
        go_cut [78] (fun v78 wc => ∃ (kq : Nat) (bL : Bool),v78 = .bool bL ∧ yf (yY.j2 kq l3 Jg Cy FD ai (K4.length : Int) yj ai bL az aj aA aC ak ax aD = some (r1,r2,r3)) ∧ yf (kq ≤ k2) ∧ yf (Kd.R (Kd.int .i64) 3 wc w.heap.size (fun _ => True) v291 Jg) ∧ yf (Kd.V (Kd.slice 3 (Kd.int .i64)) 37 wc w.heap.size (fun k_ => some k_ ≠ (v291 : Value).ownBlock ∧ k_ ≠ ay ∧ k_ ≠ av ∧ k_ ≠ au) (.slice P7 aj.length Pw) aj) ∧ yf (Kd.V DN 60 wc w.heap.size (fun k_ => some k_ ≠ (v291 : Value).ownBlock ∧ k_ ≠ ay ∧ k_ ≠ av ∧ k_ ≠ au) (.slice IU ak.length IK) ak) ∧ yf (wc.heap[ay]? = some (.cells #[.int .i64 yj,(.slice yK yg.length yE),.int .i64 ym,.int .i64 yn] 29 (0,0))) ∧ yf (wc.heap[av]? = some (.cells #[.int .i64 0,.int .i64 0] 51 (0,0))) ∧ yf (wc.heap[au]? = some (.cells #[.int .i64 az,(.slice P7 aj.length Pw),.int .i64 aA,.int .i64 aC,(.slice IU ak.length IK),.int .i64 ax,.int .i64 aD] 65 (0,0))) ∧ yf (Below w.heap.size w wc))
        case first =>
         have H := bN.out;clear bN
         by_cases L8 : 0 ≤ ai
         ·
          rw [if_pos L8] at H;have VZ := decide_eq_true L8;clear L8
          (skip)
          by_cases YQ : ai < (l3.length : Int)
          ·
           rw [if_pos YQ] at H;have dx := decide_eq_true YQ;clear YQ;obtain ⟨bV,bR⟩ : ∃ b_ : Bool,b_ = (Ir false l3 ai) := ⟨_,rfl⟩
           replace H : (if bV = true then (yY.j2 k2 l3 Jg Cy FD ai (K4.length : Int) yj ai false az aj aA aC ak ax aD) else ((slices_Contains_int.f k2 Jg ai).bind fun XR => (if XR = true then (yY.j2 k2 l3 Jg Cy FD ai (K4.length : Int) yj ai false az aj aA aC ak ax aD) else (yY.j2 k2 l3 Jg Cy FD ai (K4.length : Int) yj ai (decide ((K4.length : Int) < FD)) az aj aA aC ak ax aD)))) = some (r1,r2,r3) := by rw [← bR] at H;exact H
           have bQ := yf.mk bR;clear bR
           by_cases Rt : bV = true
           ·
            subst Rt;rw [if_pos rfl] at H;have H' := yf.mk H;clear H
            have aM : 0 ≤ (ai : Int) := of_decide_eq_true ‹_›
            have aN : ai < (l3.length : Int) := of_decide_eq_true ‹_›
            obtain ⟨bU,e296,aK⟩ := Kd.Gn HR3.out ai aM aN
            (try rw [← bQ.out] at aK)
            cases e296;replace aK := cB HB aK;replace aM := eq_true aM;replace aN := eq_true aN
            go_wp2
            repeat (go_quiet (fail);try go_wp2)
            go_meet
            case rel => exact ⟨_,(false),(by rfl),H',⟨by have := aJ.out;have := Di.out;omega⟩,⟨by (with_reducible repeat (apply Kd.zg));exact Kd.zf Bb.out (fun _ hk => trivial)⟩,⟨by (with_reducible repeat (apply Kd.zu));exact Kd.yL ag.out (fun _ hk => ⟨hk.1.1,⟨hk.1.2.1,⟨hk.1.2.2.1,hk.1.2.2.2⟩⟩⟩)⟩,⟨by (with_reducible repeat (apply Kd.zu));exact Kd.yL ah.out (fun _ hk => ⟨hk.1.1,⟨hk.1.2.1,⟨hk.1.2.2.1,hk.1.2.2.2⟩⟩⟩)⟩,⟨kk ae⟩,⟨kk aa⟩,⟨kk af⟩,⟨bO HB⟩⟩
           ·
            replace Rt := Bool.eq_false_iff.mpr Rt;subst Rt
            rw [if_neg (show ¬ (false = true) by decide)] at H
            obtain ⟨XR,Ut,H⟩ := bE H
            try dsimp only at H
            by_cases Ru : XR = true
            ·
             subst Ru;rw [if_pos rfl] at H;have H' := yf.mk H;clear H
             have aM : 0 ≤ (ai : Int) := of_decide_eq_true ‹_›
             have aN : ai < (l3.length : Int) := of_decide_eq_true ‹_›
             obtain ⟨bU,e296,aK⟩ := Kd.Gn HR3.out ai aM aN
             (try rw [← bQ.out] at aK)
             cases e296;replace aK := cB HB aK;replace aM := eq_true aM;replace aN := eq_true aN;obtain ⟨dh,dB,cZ⟩ := Kd.zB Bb.out;subst cZ
             go_wp2_with ((go_at_call 37;(with_reducible refine (slices_Contains_int.calls k2 _ _ Jg ai true _ ?yB ?yC Ut.out).mono ?_);(case yB => exact Jq Bb);(case yC => exact (Kd.zb Bb.out).2.1);rintro e w' ⟨rfl,⟨nd,rfl⟩⟩;(try exact ⟨rfl,_,World.drewN_drewN _ _ _⟩)))
             repeat (go_quiet ((go_at_call 37;(with_reducible refine (slices_Contains_int.calls k2 _ _ Jg ai true _ ?yB ?yC Ut.out).mono ?_);(case yB => exact Jq Bb);(case yC => exact (Kd.zb Bb.out).2.1);rintro e w' ⟨rfl,⟨nd,rfl⟩⟩;(try exact ⟨rfl,_,World.drewN_drewN _ _ _⟩)));try go_wp2_with ((go_at_call 37;(with_reducible refine (slices_Contains_int.calls k2 _ _ Jg ai true _ ?yB ?yC Ut.out).mono ?_);(case yB => exact Jq Bb);(case yC => exact (Kd.zb Bb.out).2.1);rintro e w' ⟨rfl,⟨nd,rfl⟩⟩;(try exact ⟨rfl,_,World.drewN_drewN _ _ _⟩))))
             go_meet
             case rel => exact ⟨_,(false),(by rfl),H',⟨by have := aJ.out;have := Di.out;omega⟩,⟨by (with_reducible repeat (apply Kd.Tn));exact Kd.zf Bb.out (fun _ hk => trivial)⟩,⟨by (with_reducible repeat (apply Kd.Jo));exact Kd.yL ag.out (fun _ hk => ⟨hk.1.1,⟨hk.1.2.1,⟨hk.1.2.2.1,hk.1.2.2.2⟩⟩⟩)⟩,⟨by (with_reducible repeat (apply Kd.Jo));exact Kd.yL ah.out (fun _ hk => ⟨hk.1.1,⟨hk.1.2.1,⟨hk.1.2.2.1,hk.1.2.2.2⟩⟩⟩)⟩,⟨kk ae⟩,⟨kk aa⟩,⟨kk af⟩,⟨bO HB⟩⟩
            ·
             replace Ru := Bool.eq_false_iff.mpr Ru;subst Ru
             rw [if_neg (show ¬ (false = true) by decide)] at H
             have H' := yf.mk H;clear H
             have aM : 0 ≤ (ai : Int) := of_decide_eq_true ‹_›
             have aN : ai < (l3.length : Int) := of_decide_eq_true ‹_›
             obtain ⟨bU,e296,aK⟩ := Kd.Gn HR3.out ai aM aN
             (try rw [← bQ.out] at aK)
             cases e296;replace aK := cB HB aK;replace aM := eq_true aM;replace aN := eq_true aN;obtain ⟨di,dC,d9⟩ := Kd.zB Bb.out;subst d9
             go_wp2_with ((go_at_call 37;(with_reducible refine (slices_Contains_int.calls k2 _ _ Jg ai false _ ?yB ?yC Ut.out).mono ?_);(case yB => exact Jq Bb);(case yC => exact (Kd.zb Bb.out).2.1);rintro e w' ⟨rfl,⟨nd,rfl⟩⟩;(try exact ⟨rfl,_,World.drewN_drewN _ _ _⟩)))
             repeat (go_quiet ((go_at_call 37;(with_reducible refine (slices_Contains_int.calls k2 _ _ Jg ai false _ ?yB ?yC Ut.out).mono ?_);(case yB => exact Jq Bb);(case yC => exact (Kd.zb Bb.out).2.1);rintro e w' ⟨rfl,⟨nd,rfl⟩⟩;(try exact ⟨rfl,_,World.drewN_drewN _ _ _⟩)));try go_wp2_with ((go_at_call 37;(with_reducible refine (slices_Contains_int.calls k2 _ _ Jg ai false _ ?yB ?yC Ut.out).mono ?_);(case yB => exact Jq Bb);(case yC => exact (Kd.zb Bb.out).2.1);rintro e w' ⟨rfl,⟨nd,rfl⟩⟩;(try exact ⟨rfl,_,World.drewN_drewN _ _ _⟩))))
             go_meet
             case rel => exact ⟨_,(decide ((K4.length : Int) < FD)),(by rfl),H',⟨by have := aJ.out;have := Di.out;omega⟩,⟨by (with_reducible repeat (apply Kd.Tn));exact Kd.zf Bb.out (fun _ hk => trivial)⟩,⟨by (with_reducible repeat (apply Kd.Jo));exact Kd.yL ag.out (fun _ hk => ⟨hk.1.1,⟨hk.1.2.1,⟨hk.1.2.2.1,hk.1.2.2.2⟩⟩⟩)⟩,⟨by (with_reducible repeat (apply Kd.Jo));exact Kd.yL ah.out (fun _ hk => ⟨hk.1.1,⟨hk.1.2.1,⟨hk.1.2.2.1,hk.1.2.2.2⟩⟩⟩)⟩,⟨kk ae⟩,⟨kk aa⟩,⟨kk af⟩,⟨bO HB⟩⟩
          ·
           rw [if_neg YQ] at H;exact absurd H (by simp)
         ·
          rw [if_neg L8] at H;exact absurd H (by simp)
        case rest =>
         clear bN Km QC QI;obtain ⟨kq,bL,rfl,HA,bH,Bb,ag,ah,ae,aa,af,HB⟩ := hcut
         cases kq with
         | zero => exact absurd HA.out (by simp [yY.j2])
         | succ bW =>
          have H := HA.out;clear HA;simp only [yY.j2] at H
          by_cases Mk : bL = true
          ·
           subst Mk;rw [if_pos rfl] at H;have H' := yf.mk H;clear H
           go_wp2
           repeat (go_quiet (fail);try go_wp2)
           go_roundg bW
           case measure => have := aJ.out;have := Di.out;have := bH.out;omega
           case rel => exact ⟨(ai),((K4.length : Int)),(wrap64 (ai + 1)),(by rfl),(by rfl),(by rfl),H',⟨by have := aJ.out;have := Di.out;have := bH.out;omega⟩,⟨kR Bb⟩,⟨kV ag⟩,⟨kV ah⟩,⟨kk ae⟩,⟨kk aa⟩,⟨kk af⟩,⟨bO HB⟩⟩
          ·
           replace Mk := Bool.eq_false_iff.mpr Mk;subst Mk
           rw [if_neg (show ¬ (false = true) by decide)] at H
           have H' := yf.mk H;clear H
           go_wp2
           repeat (go_quiet (fail);try go_wp2)
           go_roundg bW
           case measure => have := aJ.out;have := Di.out;have := bH.out;omega
           case rel => exact ⟨(Cy),(FD),(wrap64 (ai + 1)),(by rfl),(by rfl),(by rfl),H',⟨by have := aJ.out;have := Di.out;have := bH.out;omega⟩,⟨kR Bb⟩,⟨kV ag⟩,⟨kV ah⟩,⟨kk ae⟩,⟨kk aa⟩,⟨kk af⟩,⟨bO HB⟩⟩
       ·
        rw [if_neg IR] at H;have Km := decide_eq_false IR;clear IR
        by_cases c64 : Cy < 0
        ·
         rw [if_pos c64] at H;have LK := decide_eq_true c64;clear c64;simp only [Option.some.injEq,Prod.mk.injEq] at H;obtain ⟨rfl,rfl,rfl⟩ := H;have a0E := aU.out;have a0V := aT.out;have a0F := aH.out;have a0W := aI.out;have a0c := bc2 aa;have a0p := bf aa
         go_wp2
         repeat (go_quiet (fail);try go_wp2)
         refine bodyPost_ret (BB rfl _ _ av 51 #[.int .i64 0,.int .i64 0] (0,0) _ rfl (CY aa rfl) Tryz.underlying51 rfl (by kernel_rfl)) rfl ?_
         exact ⟨by rfl,bO HB⟩
        ·
         rw [if_neg c64] at H;have LK := decide_eq_false c64;clear c64;obtain ⟨IM,A68,H⟩ := bE H
         try dsimp only at H
         have H' := yf.mk H;clear H;have dF := bi.out;have dG := bg.out;have a4s := aI.out;have a4M := aH.out;have a0d := Fy af;have a0q := bf af
         go_wp2_with ((go_at_call 29;(with_reducible refine (zR.calls k2 az _ _ aj aA aC _ _ ak ax aD Cy IM _ ?yB ?yC ?zI ?zJ A68.out).mono ?_);(case yB => exact MI ag);(case yC => exact (Kd.zH ag.out).2.1);(case zI => exact MI ah);(case zJ => exact (Kd.zH ah.out).2.1);rintro e w72 ⟨v299,rfl,ho0,hb⟩;have aZ := yf.mk (Kd.AC (Kd.CV ho0 (Kd.EL (kR Bb))) (yF (bO HB)));replace Bb := yf.mk (Kd.Bu (kR Bb) (Kd.Ba ho0) hb);replace ag := yf.mk (Kd.CO (kV ag) (Kd.Ba ho0) hb);replace ah := yf.mk (Kd.CO (kV ah) (Kd.Ba ho0) hb);replace ae := bB ae hb;replace aa := bB aa hb;replace af := bB af hb;replace HB := bS HB hb;clear hb;clear ho0;obtain ⟨bq,bC,bD⟩ := Kd.zB aZ.out;subst bD))
         repeat (go_quiet ((go_at_call 29;(with_reducible refine (zR.calls k2 az _ _ aj aA aC _ _ ak ax aD Cy IM _ ?yB ?yC ?zI ?zJ A68.out).mono ?_);(case yB => exact MI ag);(case yC => exact (Kd.zH ag.out).2.1);(case zI => exact MI ah);(case zJ => exact (Kd.zH ah.out).2.1);rintro e w72 ⟨v299,rfl,ho0,hb⟩;have aZ := yf.mk (Kd.AC (Kd.CV ho0 (Kd.EL (kR Bb))) (yF (bO HB)));replace Bb := yf.mk (Kd.Bu (kR Bb) (Kd.Ba ho0) hb);replace ag := yf.mk (Kd.CO (kV ag) (Kd.Ba ho0) hb);replace ah := yf.mk (Kd.CO (kV ah) (Kd.Ba ho0) hb);replace ae := bB ae hb;replace aa := bB aa hb;replace af := bB af hb;replace HB := bS HB hb;obtain ⟨bq,bC,bD⟩ := Kd.zB aZ.out;subst bD));try go_wp2_with ((go_at_call 29;(with_reducible refine (zR.calls k2 az _ _ aj aA aC _ _ ak ax aD Cy IM _ ?yB ?yC ?zI ?zJ A68.out).mono ?_);(case yB => exact MI ag);(case yC => exact (Kd.zH ag.out).2.1);(case zI => exact MI ah);(case zJ => exact (Kd.zH ah.out).2.1);rintro e w72 ⟨v299,rfl,ho0,hb⟩;have aZ := yf.mk (Kd.AC (Kd.CV ho0 (Kd.EL (kR Bb))) (yF (bO HB)));replace Bb := yf.mk (Kd.Bu (kR Bb) (Kd.Ba ho0) hb);replace ag := yf.mk (Kd.CO (kV ag) (Kd.Ba ho0) hb);replace ah := yf.mk (Kd.CO (kV ah) (Kd.Ba ho0) hb);replace ae := bB ae hb;replace aa := bB aa hb;replace af := bB af hb;replace HB := bS HB hb;obtain ⟨bq,bC,bD⟩ := Kd.zB aZ.out;subst bD)))
         go_loopg [17,91] k2 (fun kq v17 v91 w' => ∃ (E8 : Int) (aG : Int),v17 = .int .i64 E8 ∧ v91 = .int .i64 aG ∧ yf (yY.l1 kq Cy E8 IM (IM.length : Int) aG = some (r1,r2,r3)) ∧ yf (kq ≤ k2) ∧ yf (Kd.R (Kd.int .i64) 3 w' w.heap.size (fun _ => True) (.slice bq IM.length bC) IM) ∧ yf (Kd.V (Kd.slice 3 (Kd.int .i64)) 37 w' w.heap.size (fun k_ => some k_ ≠ ((.slice bq IM.length bC) : Value).ownBlock ∧ k_ ≠ ay ∧ k_ ≠ av ∧ k_ ≠ au) (.slice P7 aj.length Pw) aj) ∧ yf (Kd.V DN 60 w' w.heap.size (fun k_ => some k_ ≠ ((.slice bq IM.length bC) : Value).ownBlock ∧ k_ ≠ ay ∧ k_ ≠ av ∧ k_ ≠ au) (.slice IU ak.length IK) ak) ∧ yf (w'.heap[ay]? = some (.cells #[.int .i64 yj,(.slice yK yg.length yE),.int .i64 ym,.int .i64 yn] 29 (0,0))) ∧ yf (w'.heap[av]? = some (.cells #[.int .i64 0,.int .i64 0] 51 (0,0))) ∧ yf (w'.heap[au]? = some (.cells #[.int .i64 az,(.slice P7 aj.length Pw),.int .i64 aA,.int .i64 aC,(.slice IU ak.length IK),.int .i64 ax,.int .i64 aD] 65 (0,0))) ∧ yf (Below w.heap.size w w'))
         case atStart => exact ⟨(ax),(0),(by rfl),(by rfl),H',⟨Nat.le_refl _⟩,⟨by (with_reducible repeat (apply Kd.zg));exact Kd.zf aZ.out (fun _ hk => trivial)⟩,⟨by (with_reducible repeat (apply Kd.zu));exact Kd.yL ag.out (fun _ hk => ⟨hk.2,⟨hk.1.2.1,⟨hk.1.2.2.1,hk.1.2.2.2⟩⟩⟩)⟩,⟨by (with_reducible repeat (apply Kd.zu));exact Kd.yL ah.out (fun _ hk => ⟨hk.2,⟨hk.1.2.1,⟨hk.1.2.2.1,hk.1.2.2.2⟩⟩⟩)⟩,⟨kk ae⟩,⟨kk aa⟩,⟨kk af⟩,⟨bO HB⟩⟩
         case round =>
          clear H' Km LK a0d a0q;obtain ⟨E8,aG,rfl,rfl,HA,Fx,bI,ag,ah,ae,aa,af,HB⟩ := hrel
          cases gk with
          | zero => exact absurd HA.out (by simp [yY.l1])
          | succ k3 =>
           have H := HA.out;clear HA;simp only [yY.l1] at H
           by_cases bn : aG < (IM.length : Int)
           ·
            rw [if_pos bn] at H;have cz := decide_eq_true bn;clear bn
            by_cases c75 : 0 ≤ aG
            ·
             rw [if_pos c75] at H;have dz := decide_eq_true c75;clear c75
             by_cases c76 : aG < (IM.length : Int)
             ·
              rw [if_pos c76] at H;have dA := decide_eq_true c76;clear c76
              by_cases aV : (rd IM aG) = E8
              ·
               rw [if_pos aV] at H;have cK := beq_iff_eq.mpr aV
               have cO : ((rd IM aG) != E8) = false := bne_eq_false_iff_eq.mpr aV
               clear aV;have H' := yf.mk H;clear H
               have aW : 0 ≤ (aG : Int) := of_decide_eq_true ‹_›
               have aX : aG < (IM.length : Int) := of_decide_eq_true ‹_›
               obtain ⟨cu,e301,df⟩ := Kd.BG (Kd.zb bI.out).2.2 aG aW aX;cases e301;replace aW := eq_true aW;replace aX := eq_true aX
               go_wp2
               repeat (go_quiet (fail);try go_wp2)
               go_roundg k3
               case measure => have := aJ.out;have := Di.out;have := Fx.out;omega
               case rel => exact ⟨(wrap64 (E8 + 1)),(wrap64 (aG + 1)),(by rfl),(by rfl),H',⟨by have := aJ.out;have := Di.out;have := Fx.out;omega⟩,⟨kR bI⟩,⟨kV ag⟩,⟨kV ah⟩,⟨kk ae⟩,⟨kk aa⟩,⟨kk af⟩,⟨bO HB⟩⟩
              ·
               rw [if_neg aV] at H;have cK := beq_eq_false_iff_ne.mpr aV;have cO := bne_iff_ne.mpr aV;have H' := yf.mk H;clear H
               have aW : 0 ≤ (aG : Int) := of_decide_eq_true ‹_›
               have aX : aG < (IM.length : Int) := of_decide_eq_true ‹_›
               obtain ⟨cu,e301,df⟩ := Kd.BG (Kd.zb bI.out).2.2 aG aW aX;cases e301;replace aW := eq_true aW;replace aX := eq_true aX
               go_wp2
               repeat (go_quiet (fail);try go_wp2)
               go_roundg k3
               case measure => have := aJ.out;have := Di.out;have := Fx.out;omega
               case rel => exact ⟨(E8),(wrap64 (aG + 1)),(by rfl),(by rfl),H',⟨by have := aJ.out;have := Di.out;have := Fx.out;omega⟩,⟨kR bI⟩,⟨kV ag⟩,⟨kV ah⟩,⟨kk ae⟩,⟨kk aa⟩,⟨kk af⟩,⟨bO HB⟩⟩
             ·
              rw [if_neg c76] at H;exact absurd H (by simp)
            ·
             rw [if_neg c75] at H;exact absurd H (by simp)
           ·
            rw [if_neg bn] at H;have cz := decide_eq_false bn;clear bn;simp only [Option.some.injEq,Prod.mk.injEq] at H;obtain ⟨rfl,rfl,rfl⟩ := H;have Xb := aU.out;have Xo := aT.out;have a4v := aH.out;have a4P := aI.out;have dD := bc2 aa;have dE := bf aa
            go_wp2
            repeat (go_quiet (fail);try go_wp2)
            refine bodyPost_ret (BB rfl _ _ av 51 #[.int .i64 Cy,.int .i64 E8] (0,0) _ rfl (CY aa rfl) Tryz.underlying51 rfl (by kernel_rfl)) rfl ?_
            exact ⟨by rfl,bO HB⟩
end Go.Proofs.YtjonnfmoocijlaaGreat.P
