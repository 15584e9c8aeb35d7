/- Texts of a claim, packed. -/
import Derived.Test.YtjonnfmoocijlaaGreatE21
set_option linter.all false
namespace Go.Proofs.YtjonnfmoocijlaaGreat.P
open Go.RowKit Go.Proofs.YtjonnfmoocijlaaGreatKW.PrintWords Go.Proofs.YtjonnfmoocijlaaGreatKW.PrintLast Go.Proofs.YtjonnfmoocijlaaGreatKW.PrintMore
attribute [local go_sem] zN zP Af Ag zz zA zO zQ
mutual
def zW.l0 : Nat → List (AP) → Int → List (KX) → Int → Int → List (List Int) → Int → Int → Option ((List (KX)))
 | 0,_,_,_,_,_,_,_,_ => none
 | k + 1,x1,x2,x7,x8,aa,ae,af,ag => (Ao.f aa ae af ag).bind fun Y5 => (if x8 < Y5 then (zW.l1 k x1 x2 x7 x8 0 aa ae af ag) else (some x7))
def zW.l1 : Nat → List (AP) → Int → List (KX) → Int → Int → Int → List (List Int) → Int → Int → Option ((List (KX)))
 | 0,_,_,_,_,_,_,_,_,_ => none
 | k + 1,x1,x2,x7,x8,x9,aa,ae,af,ag => (zn.f aa ae af ag).bind fun Vl => (if x9 < Vl then ((zM.f k aa ae af ag x1 x8 x9).bind fun ah => (if ah.1 = x2 then (if x7.length < 8796093022208 then (zW.l1 k x1 x2 (x7 ++ [(⟨x8,x9⟩ : KX)]) x8 (wrap64 (x9 + 1)) aa ae af ag) else (none)) else (zW.l1 k x1 x2 x7 x8 (wrap64 (x9 + 1)) aa ae af ag))) else (zW.l0 k x1 x2 x7 (wrap64 (x8 + 1)) aa ae af ag))
end
def zW.f (k : Nat) (yj : Int) (yg : List (List Int)) (ym : Int) (yn : Int) (l1 : List (AP)) (a2 : Int) : Option ((List (KX))) := zW.l0 k l1 a2 ([] : List (KX)) 0 yj yg ym yn
set_option maxHeartbeats 8000000 in
set_option maxRecDepth 100000 in
theorem zW.calls (k : Nat) (yj : Int) (yK : Option Addr) (yE : Nat) (yg : List (List Int)) (ym : Int) (yn : Int) (A1 : Option Addr) (c1 : Nat) (l1 : List (AP)) (a2 : Int) (r : List (KX)) (w : World) (zS : Kd.C (Kd.slice 3 (Kd.int .i64)) w yK yg.length yg) (zT : yg.length ≤ yE) (hr1 : Kd.C DN w A1 l1.length l1) (hc1 : l1.length ≤ c1) (h : zW.f k yj yg ym yn l1 a2 = some r) :
  Calls Tryz.prog 10 #[.agg #[.int .i64 yj,.slice yK yg.length yE,.int .i64 ym,.int .i64 yn],.slice A1 l1.length c1,.int .i64 a2] w fun e w' => ∃ G7 : Value,e = .returned (G7) ∧ Kd.R Zd 46 w' w.heap.size (fun _ => True) G7 r ∧ Below w.heap.size w w' := by
 have ET := Tryz.underlying29;have ay := Tryz.underlying46
 have TN : ∀ (x0 x1 : Value) (W : World),(Instr.field 51 (.agg #[x0,x1]) 0).run Tryz.prog W = .ok (x0) W := fun x0 x1 W => by rfl
 have zk := yf.mk zS;have zq := yf.mk zT;clear zS zT;have HR1 := yf.mk hr1;have Gt := yf.mk hc1;clear hr1 hc1;have HB := yf.mk (Below.refl w.heap.size w)
 have H : (zW.l0 k l1 a2 ([] : List (KX)) 0 yj yg ym yn) = some r := h
 clear h;have H' := yf.mk H;clear H
 go_enter Tryz.func10,Tryz.ntmps10
 go_wp2_with (((with_reducible refine yG (N := 3) rfl ?_);refine yD rfl (N := 3) rfl (cs := #[.int .i64 yj,.slice yK yg.length yE,.int .i64 ym,.int .i64 yn]) (t := 29) (by go_simp) ?_;intro af hg w4 yI hb;have aa := yf.mk (yI);have ax := bG (w := w) hg;have av := bG (w := w) hg;replace HB := bS HB hb;clear hb yI hg))
 go_loopg [7,8] k (fun kq v7 v8 w' => ∃ (Am : List (KX)) (BX : Int),v8 = .int .i64 BX ∧ yf (zW.l0 kq l1 a2 Am BX yj yg ym yn = some r) ∧ yf (kq ≤ k) ∧ yf (Kd.R Zd 46 w' w.heap.size (fun _ => True) v7 Am) ∧ yf (w'.heap[af]? = some (.cells #[.int .i64 yj,(.slice yK yg.length yE),.int .i64 ym,.int .i64 yn] 29 (0,0))) ∧ yf (Below w.heap.size w w'))
 case atStart => exact ⟨(([] : List (KX))),(0),(by rfl),H',⟨Nat.le_refl _⟩,⟨by exact Kd.Dc _ _ _ _ _⟩,⟨kk aa⟩,⟨bO HB⟩⟩
 case round =>
 clear H';obtain ⟨Am,BX,rfl,HA,Bn,CX,aa,HB⟩ := hrel
 cases gk with
 | zero => exact absurd HA.out (by simp [zW.l0])
 | succ k1 =>
 have H := HA.out;clear HA;simp only [zW.l0] at H;obtain ⟨Y5,A5,H⟩ := bE H
 try dsimp only at H
 by_cases c6 : BX < Y5
 rotate_left
 ·
  rw [if_neg c6] at H;have Eu := decide_eq_false c6;clear c6;obtain rfl := Option.some.inj H;have LU := AO aa;have LX := bf aa
  go_wp2_with (((with_reducible refine yz (f := 13) rfl ?_);refine gL (some 12) Tryz.func13 #[.agg #[.int .i64 yj,.slice yK yg.length yE,.int .i64 ym,.int .i64 yn]] ?_;(with_reducible refine (Ao.calls yj _ _ yg ym yn Y5 _ ?yB ?yC A5.out).mono ?_);(case yB => exact CU zk);(case yC => exact zq.out);rintro e w26 ⟨rfl,hb⟩;refine ⟨_,rfl,?_⟩;replace CX := CR CX hb;replace aa := bB aa hb;replace HB := bS HB hb;clear hb))
  go_ret
  exact ⟨_,by rfl,by (with_reducible repeat (apply Kd.zg));exact CX.out,bO HB⟩
 rw [if_pos c6] at H;have Eu := decide_eq_true c6;clear c6;have H' := yf.mk H;clear H;have a2f := AO aa;have a2h := bf aa
 go_wp2_with (((with_reducible refine yz (f := 13) rfl ?_);refine gL (some 12) Tryz.func13 #[.agg #[.int .i64 yj,.slice yK yg.length yE,.int .i64 ym,.int .i64 yn]] ?_;(with_reducible refine (Ao.calls yj _ _ yg ym yn Y5 _ ?yB ?yC A5.out).mono ?_);(case yB => exact CU zk);(case yC => exact zq.out);rintro e w8 ⟨rfl,hb⟩;refine ⟨_,rfl,?_⟩;replace CX := CR CX hb;replace aa := bB aa hb;replace HB := bS HB hb;clear hb))
 go_loopg [7,9] k1 (fun kq v7 v9 w' => ∃ (BU : List (KX)) (Br : Int),v9 = .int .i64 Br ∧ yf (zW.l1 kq l1 a2 BU BX Br yj yg ym yn = some r) ∧ yf (kq ≤ k1) ∧ yf (Kd.R Zd 46 w' w.heap.size (fun _ => True) v7 BU) ∧ yf (w'.heap[af]? = some (.cells #[.int .i64 yj,(.slice yK yg.length yE),.int .i64 ym,.int .i64 yn] 29 (0,0))) ∧ yf (Below w.heap.size w w'))
 case atStart => exact ⟨(Am),(0),(by rfl),H',⟨Nat.le_refl _⟩,⟨kR CX⟩,⟨kk aa⟩,⟨bO HB⟩⟩
 case round =>
 clear H' Eu a2f a2h;obtain ⟨BU,Br,rfl,HA,Di,CX,aa,HB⟩ := hrel
 cases gk with
 | zero => exact absurd HA.out (by simp [zW.l1])
 | succ k2 =>
  have H := HA.out;clear HA;simp only [zW.l1] at H;obtain ⟨Vl,A9,H⟩ := bE H
  try dsimp only at H
  by_cases c10 : Br < Vl
  ·
   rw [if_pos c10] at H;have Fu := decide_eq_true c10;clear c10;obtain ⟨⟨ae,ah⟩,Yp,H⟩ := bE H
   try dsimp only at H
   by_cases c12 : ae = a2
   ·
    rw [if_pos c12] at H;have Gj := beq_iff_eq.mpr c12
    have Ot : (ae != a2) = false := bne_eq_false_iff_eq.mpr c12
    clear c12
    by_cases c13 : BU.length < 8796093022208
    ·
     rw [if_pos c13] at H;have ak := yf.mk c13;clear c13;obtain ⟨ai,ag⟩ : ∃ y_ : List (KX),y_ = (BU ++ [(⟨BX,Br⟩ : KX)]) := ⟨_,rfl⟩
     replace H : (zW.l1 k2 l1 a2 ai BX (wrap64 (Br + 1)) yj yg ym yn) = some r := by (rw [ag];with_reducible exact H)
     have au := yf.mk ag;clear ag;have H' := yf.mk H;clear H;have I6 := AO aa;have I7 := bf aa
     go_wp2_with (first | ((with_reducible refine yz (f := 14) rfl ?_);refine gL (some 18) Tryz.func14 #[.agg #[.int .i64 yj,.slice yK yg.length yE,.int .i64 ym,.int .i64 yn]] ?_;(with_reducible refine (zn.calls yj _ _ yg ym yn Vl _ ?yB ?yC A9.out).mono ?_);(case yB => exact CU zk);(case yC => exact zq.out);rintro e w15 ⟨rfl,hb⟩;refine ⟨_,rfl,?_⟩;replace CX := CR CX hb;replace aa := bB aa hb;replace HB := bS HB hb;clear hb;have IA := AO aa;have IE := bf aa) | ((with_reducible refine yz (f := 30) rfl ?_);refine gL (some 26) Tryz.func30 #[.agg #[.int .i64 yj,.slice yK yg.length yE,.int .i64 ym,.int .i64 yn],.slice A1 l1.length c1,.int .i64 BX,.int .i64 Br] ?_;(with_reducible refine (zM.calls k2 yj _ _ yg ym yn _ _ l1 BX Br ae ah _ ?yB ?yC ?zI ?zJ Yp.out).mono ?_);(case yB => exact CU zk);(case yC => exact zq.out);(case zI => exact CU HR1);(case zJ => exact Gt.out);rintro e w17 ⟨rfl,hb⟩;refine ⟨_,rfl,?_⟩;replace CX := CR CX hb;replace aa := bB aa hb;replace HB := bS HB hb;clear hb) | ((with_reducible refine Bf (b := .append) (xs := #[.tmp 30,.tmp 34]) rfl ?_);at_builtin;refine Kd.Dz Zd (w0 := w) w.heap.size rfl (.tmp 30) (.tmp 34) 40 46 (.agg #[(.int .i64 0),(.int .i64 0)]) 16 rfl Tryz.underlying40 a2C rfl (by decide) (by omega) u7 BU (⟨BX,Br⟩ : KX) [.int .i64 BX,.int .i64 Br] (fun _ => True) (fun _ => False) rfl rfl ?aP (fun _ hk => hk.elim) ?aF ?aO ?aB ?aS ?aL ?_;(case aP => exact Ze _ _ _ (⟨BX,Br⟩ : KX));(case aB => exact (bO HB));(case aF => exact (fun _ _ => trivial));(case aO => exact (kR CX));(case aS => exact (yF (bO HB)));(case aL => have := ak.out;omega);intro v658 w18 ho hb hg hat;rw [← au.out] at ho;have BR := yf.mk (zL (g := af) (o := .cells #[.int .i64 yj,.slice yK yg.length yE,.int .i64 ym,.int .i64 yn] 29 (0,0)) (kk aa) hg (Kd.DC CX.out aa.out (by decide)));have BS := yf.mk (hb);have Ce := yf.mk (ho);clear aa;clear HB;clear CX;have aa := BR;have HB := BS;have aj := Ce;clear BR BS Ce;clear ho hb hg hat))
     go_roundg k2
     case measure => have := Bn.out;have := Di.out;omega
     case rel => exact ⟨(ai),(wrap64 (Br + 1)),(by rfl),H',⟨by have := Bn.out;have := Di.out;omega⟩,⟨kR aj⟩,⟨kk aa⟩,⟨bO HB⟩⟩
    ·
     rw [if_neg c13] at H;exact absurd H (by simp)
   ·
    rw [if_neg c12] at H;have Gj := beq_eq_false_iff_ne.mpr c12;have Ot := bne_iff_ne.mpr c12;have H' := yf.mk H;clear H;have TJ := AO aa;have TQ := bf aa
    go_wp2_with (first | ((with_reducible refine yz (f := 14) rfl ?_);refine gL (some 18) Tryz.func14 #[.agg #[.int .i64 yj,.slice yK yg.length yE,.int .i64 ym,.int .i64 yn]] ?_;(with_reducible refine (zn.calls yj _ _ yg ym yn Vl _ ?yB ?yC A9.out).mono ?_);(case yB => exact CU zk);(case yC => exact zq.out);rintro e w20 ⟨rfl,hb⟩;refine ⟨_,rfl,?_⟩;replace CX := CR CX hb;replace aa := bB aa hb;replace HB := bS HB hb;clear hb;have JH := AO aa;have JJ := bf aa) | ((with_reducible refine yz (f := 30) rfl ?_);refine gL (some 26) Tryz.func30 #[.agg #[.int .i64 yj,.slice yK yg.length yE,.int .i64 ym,.int .i64 yn],.slice A1 l1.length c1,.int .i64 BX,.int .i64 Br] ?_;(with_reducible refine (zM.calls k2 yj _ _ yg ym yn _ _ l1 BX Br ae ah _ ?yB ?yC ?zI ?zJ Yp.out).mono ?_);(case yB => exact CU zk);(case yC => exact zq.out);(case zI => exact CU HR1);(case zJ => exact Gt.out);rintro e w22 ⟨rfl,hb⟩;refine ⟨_,rfl,?_⟩;replace CX := CR CX hb;replace aa := bB aa hb;replace HB := bS HB hb;clear hb))
    go_roundg k2
    case measure => have := Bn.out;have := Di.out;omega
    case rel => exact ⟨(BU),(wrap64 (Br + 1)),(by rfl),H',⟨by have := Bn.out;have := Di.out;omega⟩,⟨kR CX⟩,⟨kk aa⟩,⟨bO HB⟩⟩
  ·
   rw [if_neg c10] at H;have Fu := decide_eq_false c10;clear c10;have H' := yf.mk H;clear H;have a04 := AO aa;have a0h := bf aa
   go_wp2_with (((with_reducible refine yz (f := 14) rfl ?_);refine gL (some 18) Tryz.func14 #[.agg #[.int .i64 yj,.slice yK yg.length yE,.int .i64 ym,.int .i64 yn]] ?_;(with_reducible refine (zn.calls yj _ _ yg ym yn Vl _ ?yB ?yC A9.out).mono ?_);(case yB => exact CU zk);(case yC => exact zq.out);rintro e w24 ⟨rfl,hb⟩;refine ⟨_,rfl,?_⟩;replace CX := CR CX hb;replace aa := bB aa hb;replace HB := bS HB hb;clear hb))
   go_roundg k2
   case measure => have := Bn.out;have := Di.out;omega
   case rel => exact ⟨(BU),(wrap64 (BX + 1)),(by rfl),H',⟨by have := Bn.out;have := Di.out;omega⟩,⟨kR CX⟩,⟨kk aa⟩,⟨bO HB⟩⟩
end Go.Proofs.YtjonnfmoocijlaaGreat.P
