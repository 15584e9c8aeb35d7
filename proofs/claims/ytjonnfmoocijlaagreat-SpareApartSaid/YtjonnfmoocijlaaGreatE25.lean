/- Texts of a claim, packed. -/
import Derived.Test.YtjonnfmoocijlaaGreatE24
set_option linter.all false
namespace Go.Proofs.YtjonnfmoocijlaaGreat.P
open Go.RowKit Go.Proofs.YtjonnfmoocijlaaGreatKW.PrintWords Go.Proofs.YtjonnfmoocijlaaGreatKW.PrintLast Go.Proofs.YtjonnfmoocijlaaGreatKW.PrintMore
attribute [local go_sem] zN zP Af Ag zz zA zO zQ
mutual
def yS.l0 : Nat → List (AP) → List (AP) → Int → Int → Int → List (List Int) → Int → Int → Int → List (List Int) → Int → Int → List (AP) → Int → Int → Option (Int × (List (List Int)) × Int × Int × (List (AP)) × Int × Int × Bool)
 | 0,_,_,_,_,_,_,_,_,_,_,_,_,_,_,_ => none
 | k + 1,x1,x27,x28,x29,ak,au,av,ax,af,ag,ah,ai,aj,aa,ae => if x29 < x28 then (if 0 ≤ x29 then (if x29 < (x27.length : Int) then ((Dy.f af ag ah ai aj aa ae ((yh x27 x29).f0) ((yh x27 x29).f1)).bind fun a2K => (if a2K = true then (if x29 > 0 then (if 0 ≤ (wrap64 (x29 - 1)) then (if (wrap64 (x29 - 1)) < (x1.length : Int) then ((Bj.f k ((yh x1 (wrap64 (x29 - 1))).f0) ((yh x1 (wrap64 (x29 - 1))).f1) ((yh x1 (wrap64 (x29 - 1))).f2.f0) ((yh x1 (wrap64 (x29 - 1))).f2.f1) ((yh x27 x29).f0) ((yh x27 x29).f1)).bind fun t233 => (yS.j1 k x1 x27 x28 x29 (decide (t233 ≥ 0)) ak au av ax af ag ah ai aj aa ae ((yh x27 x29).f0) ((yh x27 x29).f1) ((yh x27 x29).f2.f0) ((yh x27 x29).f2.f1))) else (none)) else (none)) else (yS.j1 k x1 x27 x28 x29 false ak au av ax af ag ah ai aj aa ae ((yh x27 x29).f0) ((yh x27 x29).f1) ((yh x27 x29).f2.f0) ((yh x27 x29).f2.f1))) else (some (0,([] : List (List Int)),0,0,([] : List (AP)),0,0,false)))) else (none)) else (none)) else (yS.l1 k x1 (x1.length : Int) 0 af ag ah ai aj aa ae)
def yS.j1 : Nat → List (AP) → List (AP) → Int → Int → Bool → Int → List (List Int) → Int → Int → Int → List (List Int) → Int → Int → List (AP) → Int → Int → Int → Int → Int → Int → Option (Int × (List (List Int)) × Int × Int × (List (AP)) × Int × Int × Bool)
 | 0,_,_,_,_,_,_,_,_,_,_,_,_,_,_,_,_,_,_,_,_ => none
 | k + 1,x1,x27,x28,x29,x57,ak,au,av,ax,af,ag,ah,ai,aj,aa,ae,aA,aC,ay,az => if x57 = true then (some (0,([] : List (List Int)),0,0,([] : List (AP)),0,0,false)) else (if ay < 0 then (yS.j2 k x1 x27 x28 x29 true ak au av ax af ag ah ai aj aa ae) else (if ay ≥ ak then (yS.j2 k x1 x27 x28 x29 true ak au av ax af ag ah ai aj aa ae) else (if az < aa then (yS.j2 k x1 x27 x28 x29 true ak au av ax af ag ah ai aj aa ae) else (if az ≥ ae then (yS.j2 k x1 x27 x28 x29 true ak au av ax af ag ah ai aj aa ae) else (yS.j2 k x1 x27 x28 x29 (Jf x27 x29) ak au av ax af ag ah ai aj aa ae)))))
def yS.j2 : Nat → List (AP) → List (AP) → Int → Int → Bool → Int → List (List Int) → Int → Int → Int → List (List Int) → Int → Int → List (AP) → Int → Int → Option (Int × (List (List Int)) × Int × Int × (List (AP)) × Int × Int × Bool)
 | 0,_,_,_,_,_,_,_,_,_,_,_,_,_,_,_,_ => none
 | k + 1,x1,x27,x28,x29,x93,ak,au,av,ax,af,ag,ah,ai,aj,aa,ae => if x93 = true then (some (0,([] : List (List Int)),0,0,([] : List (AP)),0,0,false)) else (yS.l0 k x1 x27 x28 (wrap64 (x29 + 1)) ak au av ax af ag ah ai aj aa ae)
def yS.l1 : Nat → List (AP) → Int → Int → Int → List (List Int) → Int → Int → List (AP) → Int → Int → Option (Int × (List (List Int)) × Int × Int × (List (AP)) × Int × Int × Bool)
 | 0,_,_,_,_,_,_,_,_,_,_ => none
 | k + 1,x99,x100,x101,af,ag,ah,ai,aj,aa,ae => if x101 < x100 then (if 0 ≤ x101 then (if x101 < (x99.length : Int) then ((BO.f k af ag ah ai aj aa ae ((yh x99 x101).f0)).bind fun t236 => (if t236 = true then (yS.l1 k x99 x100 (wrap64 (x101 + 1)) af ag ah ai aj aa ae) else (some (0,([] : List (List Int)),0,0,([] : List (AP)),0,0,false)))) else (none)) else (none)) else (some (af,ag,ah,ai,aj,aa,ae,true))
end
def yS.f (k : Nat) (yj : Int) (yg : List (List Int)) (ym : Int) (yn : Int) (l1 : List (AP)) : Option (Int × (List (List Int)) × Int × Int × (List (AP)) × Int × Int × Bool) := (Ap.f k yj yg ym yn).bind fun t226 => (if t226 = 0 then (some (0,([] : List (List Int)),0,0,([] : List (AP)),0,0,false)) else (yS.l0 k l1 l1 (l1.length : Int) 0 yj yg ym yn yj yg ym yn l1 (wrap64 (t226 - yn)) t226))
def yS.T11 : Bool × List (List Nat × List Nat) := (true,[([],[]),([0],[0]),([1],[1]),([2],[2]),([2],[2]),([4,2],[2,4]),([3,5,2],[2,3,5]),([6,2],[2,6]),([2],[2]),([8,2],[2,8]),([2],[2]),([10,2],[2,10]),([9,11,2],[2,9,11]),([7,12,2,2],[2,7,12]),([13,2],[2,13]),([2,14],[2,14])])
def yS.B11 : List Nat := [0,1,3,7,7,23,63,127,7,263,7,1031,3847,8191,16383,32767]
theorem yS.a1b : Dv .any (opsOf Tryz.f22 11) = yS.T11 := by kernel_rfl
theorem yS.VI : BH yS.T11.2 yS.B11 = true := by kernel_rfl
set_option maxHeartbeats 8000000 in
set_option maxRecDepth 100000 in
theorem yS.calls (k : Nat) (yj : Int) (Fg : Nat → Prop) (yK : Option Addr) (yE : Nat) (yg : List (List Int)) (ym : Int) (yn : Int) (dA : Nat → Prop) (A1 : Option Addr) (c1 : Nat) (l1 : List (AP)) (r1 : Int) (r2 : List (List Int)) (r3 : Int) (r4 : Int) (r5 : List (AP)) (r6 : Int) (r7 : Int) (r8 : Bool) (w : World) (JL : Kd.V (Kd.slice 3 (Kd.int .i64)) 37 w w.heap.size (fun k_ => Fg k_) (.slice yK yg.length yE) yg) (hs1 : Kd.V DN 60 w w.heap.size (fun k_ => dA k_) (.slice A1 l1.length c1) l1) (h : yS.f k yj yg ym yn l1 = some (r1,r2,r3,r4,r5,r6,r7,r8)) :
  Calls Tryz.prog 22 #[.agg #[.int .i64 yj,.slice yK yg.length yE,.int .i64 ym,.int .i64 yn],.slice A1 l1.length c1] w fun e w' => ∃ Us dM : Value,e = .returned (.tuple #[.agg #[.int .i64 r1,Us,.int .i64 r3,.int .i64 r4,dM,.int .i64 r6,.int .i64 r7],.bool r8]) ∧ Kd.V (Kd.slice 3 (Kd.int .i64)) 37 w' w.heap.size (fun k_ => ((Fg k_ ∨ dA k_) ∨ w.heap.size ≤ k_)) Us r2 ∧ Kd.V DN 60 w' w.heap.size (fun k_ => ((Fg k_ ∨ dA k_) ∨ w.heap.size ≤ k_)) dM r5 ∧ Below w.heap.size w w' := by
 have ET := Tryz.underlying29;have Mq := Tryz.underlying65;have KE := Tryz.underlying51;have Ob := Tryz.underlying60;have SL := Tryz.underlying45;have HS0 := yf.mk JL;have dS := yf.mk hs1;have zS := (Kd.zH JL).2.2;have zT := (Kd.zH JL).2.1;have hr1 := (Kd.zH hs1).2.2;have hc1 := (Kd.zH hs1).2.1;clear JL hs1;have zk := yf.mk zS;have zq := yf.mk zT;clear zS zT;have HR1 := yf.mk hr1;have Gt := yf.mk hc1;clear hr1 hc1;have gD := @run_makeMap Tryz.prog;have HB := yf.mk (Below.refl w.heap.size w)
 have H : ((Ap.f k yj yg ym yn).bind fun t226 => (if t226 = 0 then (some (0,([] : List (List Int)),0,0,([] : List (AP)),0,0,false)) else (yS.l0 k l1 l1 (l1.length : Int) 0 yj yg ym yn yj yg ym yn l1 (wrap64 (t226 - yn)) t226))) = some (r1,r2,r3,r4,r5,r6,r7,r8) := h
 clear h;obtain ⟨t226,A3,H⟩ := bE H
 try dsimp only at H
 by_cases c4 : t226 = 0
 ·
  rw [if_pos c4] at H;have ER := beq_iff_eq.mpr c4
  have Mh : (t226 != 0) = false := bne_eq_false_iff_eq.mpr c4
  clear c4;simp only [Option.some.injEq,Prod.mk.injEq] at H;obtain ⟨rfl,rfl,rfl,rfl,rfl,rfl,rfl,rfl⟩ := H
  go_enter Tryz.func22,Tryz.ntmps22
  go_wp2_with (first | ((with_reducible refine yG (N := 2) rfl ?_);refine yD rfl (N := 2) rfl (cs := #[.int .i64 yj,.slice yK yg.length yE,.int .i64 ym,.int .i64 yn]) (t := 29) (by go_simp) ?_;intro Dg hg w5 yI hb;have Ai := yf.mk (yI);have Q5 := bG (w := w) hg;have Q4 := bG (w := w) hg;replace HB := bS HB hb;clear hb yI hg) | ((with_reducible refine yG (N := 4) rfl ?_);refine yD rfl (N := 4) rfl (cs := #[.int .i64 0,.slice none 0 0,.int .i64 0,.int .i64 0,.slice none 0 0,.int .i64 0,.int .i64 0]) (t := 65) (by go_simp) ?_;intro au hg w6 yI hb;have aa := yf.mk (yI);have dP := bG (w := w) hg;have dN := bG (w := w) hg;have aD := Cq Ai hg;have aG := Aq Ai hg;replace Ai := bB Ai hb;replace HB := bS HB hb;clear hb yI hg;have a2r := aD.out;have a2A := aG.out;have QD := AO Ai;have QJ := bf Ai) | ((with_reducible refine yz (f := 42) rfl ?_);refine gL (some 14) Tryz.func42 #[.agg #[.int .i64 yj,.slice yK yg.length yE,.int .i64 ym,.int .i64 yn]] ?_;(with_reducible refine (Ap.calls k yj _ _ yg ym yn t226 _ ?yB ?yC A3.out).mono ?_);(case yB => exact CU zk);(case yC => exact zq.out);rintro e w9 ⟨rfl,hb⟩;refine ⟨_,rfl,?_⟩;replace Ai := bB Ai hb;replace aa := bB aa hb;replace HB := bS HB hb;clear hb;have Kr := Fy aa;have Kz := bf aa))
  refine bodyPost_ret (BB rfl _ _ au 65 #[.int .i64 0,.slice none 0 0,.int .i64 0,.int .i64 0,.slice none 0 0,.int .i64 0,.int .i64 0] (0,0) _ rfl (CY aa rfl) Tryz.underlying65 rfl (by kernel_rfl)) rfl ?_
  exact ⟨_,_,by rfl,by exact Kd.Fp _ _ _ _ _,by exact Kd.Fp _ _ _ _ _,bO HB⟩
 rw [if_neg c4] at H;have ER := beq_eq_false_iff_ne.mpr c4;have Mh := bne_iff_ne.mpr c4;have H' := yf.mk H;clear H
 go_enter Tryz.func22,Tryz.ntmps22
 go_wp2_with (first | ((with_reducible refine yG (N := 2) rfl ?_);refine yD rfl (N := 2) rfl (cs := #[.int .i64 yj,.slice yK yg.length yE,.int .i64 ym,.int .i64 yn]) (t := 29) (by go_simp) ?_;intro Dg hg w11 yI hb;have Ai := yf.mk (yI);have Q5 := bG (w := w) hg;have Q4 := bG (w := w) hg;replace HB := bS HB hb;clear hb yI hg) | ((with_reducible refine yG (N := 4) rfl ?_);refine yD rfl (N := 4) rfl (cs := #[.int .i64 0,.slice none 0 0,.int .i64 0,.int .i64 0,.slice none 0 0,.int .i64 0,.int .i64 0]) (t := 65) (by go_simp) ?_;intro au hg w12 yI hb;have aa := yf.mk (yI);have dP := bG (w := w) hg;have dN := bG (w := w) hg;have aD := Cq Ai hg;have aG := Aq Ai hg;replace Ai := bB Ai hb;replace HB := bS HB hb;clear hb yI hg;have WZ := aD.out;have Xe := aG.out;have I6 := AO Ai;have I7 := bf Ai) | ((with_reducible refine yz (f := 42) rfl ?_);refine gL (some 14) Tryz.func42 #[.agg #[.int .i64 yj,.slice yK yg.length yE,.int .i64 ym,.int .i64 yn]] ?_;(with_reducible refine (Ap.calls k yj _ _ yg ym yn t226 _ ?yB ?yC A3.out).mono ?_);(case yB => exact CU zk);(case yC => exact zq.out);rintro e w15 ⟨rfl,hb⟩;refine ⟨_,rfl,?_⟩;replace Ai := bB Ai hb;replace aa := bB aa hb;replace HB := bS HB hb;clear hb;have IA := AO Ai;have IE := bf Ai) | ((with_reducible refine yG (N := 7) rfl ?_);refine yD rfl (N := 7) rfl (cs := #[.int .i64 0,.slice none 0 0,.int .i64 0,.int .i64 0,.slice none 0 0,.int .i64 0,.int .i64 0]) (t := 65) (by go_simp) ?_;intro aC hg w17 yI hb;have af := yf.mk (yI);have eB := bG (w := w) hg;have ek := bG (w := w) hg;have aj := Cq Ai hg;have aT := Aq Ai hg;have ah := Cq aa hg;have aJ := Aq aa hg;replace Ai := bB Ai hb;replace aa := bB aa hb;replace HB := bS HB hb;clear hb yI hg;have a0t := aT.out;have a0K := aj.out;have a0u := aJ.out;have a0L := ah.out;have OB := Fy af;have OE := bf af) | ((with_reducible refine yG (N := 26) rfl ?_);refine UV ?hg (N := 26) ?hd l1 ?hr ?_;(case hd => rfl);(case hg => rfl);(case hr => go_simp);intro aA hg w21 yI hb;have BR := yf.mk (yZ (g := Dg) (o := .cells #[.int .i64 yj,.slice yK yg.length yE,.int .i64 ym,.int .i64 yn] 29 (0,0)) (by refine kp ?_;refine yV ?_ aj.out _;refine kp ?_;refine yV ?_ aj.out _;refine kp ?_;refine yV ?_ aj.out _;refine kp ?_;refine yV ?_ aj.out _;refine kp ?_;refine yV ?_ aj.out _;refine kp ?_;refine yV ?_ aj.out _;refine kp ?_;refine yV ?_ aj.out _;refine kp ?_;exact Ai.out) hb);have BS := yf.mk (yZ (g := au) (o := .cells #[.int .i64 0,.slice none 0 0,.int .i64 0,.int .i64 0,.slice none 0 0,.int .i64 0,.int .i64 0] 65 (0,0)) (by refine kp ?_;refine yV ?_ ah.out _;refine kp ?_;refine yV ?_ ah.out _;refine kp ?_;refine yV ?_ ah.out _;refine kp ?_;refine yV ?_ ah.out _;refine kp ?_;refine yV ?_ ah.out _;refine kp ?_;refine yV ?_ ah.out _;refine kp ?_;refine yV ?_ ah.out _;refine kp ?_;exact aa.out) hb);have Ce := yf.mk (yZ (g := aC) (o := .cells #[.int .i64 yj,.slice yK yg.length yE,.int .i64 ym,.int .i64 yn,.slice A1 l1.length c1,.int .i64 (wrap64 (t226 - yn)),.int .i64 t226] 65 (0,0)) (CY af rfl) hb);have CZ := bS HB hb;have Dx := yf.mk (yI);have E5 := bG (w := w) hg;have G6 := bG (w := w) hg;have GI := yf.mk ((by rw [hg];exact Nat.ne_of_lt (ED (g := Dg) (o := .cells #[.int .i64 yj,.slice yK yg.length yE,.int .i64 ym,.int .i64 yn] 29 (0,0)) (by refine kp ?_;refine yV ?_ aj.out _;refine kp ?_;refine yV ?_ aj.out _;refine kp ?_;refine yV ?_ aj.out _;refine kp ?_;refine yV ?_ aj.out _;refine kp ?_;refine yV ?_ aj.out _;refine kp ?_;refine yV ?_ aj.out _;refine kp ?_;refine yV ?_ aj.out _;refine kp ?_;exact Ai.out)) : Dg ≠ aA));have Jb := yf.mk ((by rw [hg];exact Nat.ne_of_gt (ED (g := Dg) (o := .cells #[.int .i64 yj,.slice yK yg.length yE,.int .i64 ym,.int .i64 yn] 29 (0,0)) (by refine kp ?_;refine yV ?_ aj.out _;refine kp ?_;refine yV ?_ aj.out _;refine kp ?_;refine yV ?_ aj.out _;refine kp ?_;refine yV ?_ aj.out _;refine kp ?_;refine yV ?_ aj.out _;refine kp ?_;refine yV ?_ aj.out _;refine kp ?_;refine yV ?_ aj.out _;refine kp ?_;exact Ai.out)) : aA ≠ Dg));have Jc := yf.mk ((by rw [hg];exact Nat.ne_of_lt (ED (g := au) (o := .cells #[.int .i64 0,.slice none 0 0,.int .i64 0,.int .i64 0,.slice none 0 0,.int .i64 0,.int .i64 0] 65 (0,0)) (by refine kp ?_;refine yV ?_ ah.out _;refine kp ?_;refine yV ?_ ah.out _;refine kp ?_;refine yV ?_ ah.out _;refine kp ?_;refine yV ?_ ah.out _;refine kp ?_;refine yV ?_ ah.out _;refine kp ?_;refine yV ?_ ah.out _;refine kp ?_;refine yV ?_ ah.out _;refine kp ?_;exact aa.out)) : au ≠ aA));have EG := yf.mk ((by rw [hg];exact Nat.ne_of_gt (ED (g := au) (o := .cells #[.int .i64 0,.slice none 0 0,.int .i64 0,.int .i64 0,.slice none 0 0,.int .i64 0,.int .i64 0] 65 (0,0)) (by refine kp ?_;refine yV ?_ ah.out _;refine kp ?_;refine yV ?_ ah.out _;refine kp ?_;refine yV ?_ ah.out _;refine kp ?_;refine yV ?_ ah.out _;refine kp ?_;refine yV ?_ ah.out _;refine kp ?_;refine yV ?_ ah.out _;refine kp ?_;refine yV ?_ ah.out _;refine kp ?_;exact aa.out)) : aA ≠ au));have EH := yf.mk ((by rw [hg];exact Nat.ne_of_lt (ED (g := aC) (o := .cells #[.int .i64 yj,.slice yK yg.length yE,.int .i64 ym,.int .i64 yn,.slice A1 l1.length c1,.int .i64 (wrap64 (t226 - yn)),.int .i64 t226] 65 (0,0)) (CY af rfl)) : aC ≠ aA));have F4 := yf.mk ((by rw [hg];exact Nat.ne_of_gt (ED (g := aC) (o := .cells #[.int .i64 yj,.slice yK yg.length yE,.int .i64 ym,.int .i64 yn,.slice A1 l1.length c1,.int .i64 (wrap64 (t226 - yn)),.int .i64 t226] 65 (0,0)) (CY af rfl)) : aA ≠ aC));clear Ai;clear aa;clear af;clear HB;have Ai := BR;have aa := BS;have af := Ce;have HB := CZ;have ag := Dx;have dQ := E5;have eu := G6;have bJ := GI;have bZ := Jb;have bA := Jc;have bL := EG;have aU := EH;have bq := F4;clear BR BS Ce CZ Dx E5 G6 GI Jb Jc EG EH F4;clear hb yI hg))
 go_loopg [29] k (fun kq v29 w' => ∃ (ae : Int) (aY : Int) (aZ : Int) (bg : Int) (bi : Int) (bn : Int),v29 = .int .i64 ae ∧ yf (yS.l0 kq l1 l1 (l1.length : Int) ae yj yg ym yn yj yg ym yn l1 (wrap64 (t226 - yn)) t226 = some (r1,r2,r3,r4,r5,r6,r7,r8)) ∧ yf (kq ≤ k) ∧ yf (w'.heap[Dg]? = some (.cells #[.int .i64 yj,(.slice yK yg.length yE),.int .i64 ym,.int .i64 yn] 29 (0,0))) ∧ yf (w'.heap[au]? = some (.cells #[.int .i64 aY,(.slice none 0 0),.int .i64 aZ,.int .i64 bg,(.slice none 0 0),.int .i64 bi,.int .i64 bn] 65 (0,0))) ∧ yf (w'.heap[aC]? = some (.cells #[.int .i64 yj,(.slice yK yg.length yE),.int .i64 ym,.int .i64 yn,(.slice A1 l1.length c1),.int .i64 (wrap64 (t226 - yn)),.int .i64 t226] 65 (0,0))) ∧ yf (w'.heap[aA]? = some (DT l1 ae)) ∧ yf (Below w.heap.size w w'))
 case atStart => exact ⟨(0),(0),(0),(0),(0),(0),(by rfl),H',⟨Nat.le_refl _⟩,⟨kk Ai⟩,⟨kk aa⟩,⟨kk af⟩,⟨kk ag⟩,⟨bO HB⟩⟩
 case round =>
 clear H' c4 ER Mh I6 IA OB I7 IE OE;obtain ⟨ae,aY,aZ,bg,bi,bn,rfl,HA,Bn,Ai,aa,af,ag,HB⟩ := hrel
 cases gk with
 | zero => exact absurd HA.out (by simp [yS.l0])
 | succ k1 =>
 have H := HA.out;clear HA;simp only [yS.l0] at H
 by_cases I4 : ae < (l1.length : Int)
 rotate_left
 ·
  rw [if_neg I4] at H;have JE := decide_eq_false I4;clear I4;have H' := yf.mk H;clear H
  go_wp2
  go_loopg [101] k1 (fun kq v101 w' => ∃ (ak : Int) (bT : Int) (bU : Int) (bV : Int) (bW : Int) (bX : Int),v101 = .int .i64 ak ∧ yf (yS.l1 kq l1 (l1.length : Int) ak yj yg ym yn l1 (wrap64 (t226 - yn)) t226 = some (r1,r2,r3,r4,r5,r6,r7,r8)) ∧ yf (kq ≤ k1) ∧ yf (w'.heap[Dg]? = some (.cells #[.int .i64 yj,(.slice yK yg.length yE),.int .i64 ym,.int .i64 yn] 29 (0,0))) ∧ yf (w'.heap[au]? = some (.cells #[.int .i64 bT,(.slice none 0 0),.int .i64 bU,.int .i64 bV,(.slice none 0 0),.int .i64 bW,.int .i64 bX] 65 (0,0))) ∧ yf (w'.heap[aC]? = some (.cells #[.int .i64 yj,(.slice yK yg.length yE),.int .i64 ym,.int .i64 yn,(.slice A1 l1.length c1),.int .i64 (wrap64 (t226 - yn)),.int .i64 t226] 65 (0,0))) ∧ yf (w'.heap[aA]? = some (DT l1 ae)) ∧ yf (Below w.heap.size w w'))
  case atStart => exact ⟨(0),(aY),(aZ),(bg),(bi),(bn),(by rfl),H',⟨Nat.le_refl _⟩,⟨kk Ai⟩,⟨kk aa⟩,⟨kk af⟩,⟨kk ag⟩,⟨bO HB⟩⟩
  case round =>
  clear H' JE;obtain ⟨ak,bT,bU,bV,bW,bX,rfl,HA,Di,Ai,aa,af,ag,HB⟩ := hrel
  cases gk with
  | zero => exact absurd HA.out (by simp [yS.l1])
  | succ k2 =>
   have H := HA.out;clear HA;simp only [yS.l1] at H
   by_cases bC : ak < (l1.length : Int)
   ·
    rw [if_pos bC] at H;have dV := decide_eq_true bC;clear bC
    by_cases cz : 0 ≤ ak
    ·
     rw [if_pos cz] at H;have eD := decide_eq_true cz;clear cz
     by_cases c130 : ak < (l1.length : Int)
     ·
      rw [if_pos c130] at H;have eF := decide_eq_true c130;clear c130;obtain ⟨t236,dE,H⟩ := bE H
      try dsimp only at H
      by_cases cK : t236 = true
      ·
       subst cK;rw [if_pos rfl] at H;have H' := yf.mk H;clear H
       have bu : 0 ≤ (ak : Int) := of_decide_eq_true ‹_›
       have bv : ak < (l1.length : Int) := of_decide_eq_true ‹_›
       obtain ⟨bM,e234,bN,bP,bQ,bR⟩ := Ck HR1.out ak bu bv;cases e234;replace bN := cB HB bN;replace bP := cB HB bP;replace bQ := cB HB bQ;replace bR := cB HB bR;replace bu := eq_true bu;replace bv := eq_true bv
       go_wp2_with (first | ((with_reducible refine yG (N := 12) rfl ?_);refine yD rfl (N := 12) rfl (cs := #[.int .i64 0,.int .i64 0,.int .i64 0,.int .i64 0]) (t := 60) (by go_simp) ?_;intro dB hg w133 yI hb;have aQ := yf.mk (yI);have dR := bG (w := w) hg;have dO := bG (w := w) hg;have aH := Cq Ai hg;have dn := Aq Ai hg;have aI := Cq aa hg;have dw := Aq aa hg;have aK := Cq af hg;have dx := Aq af hg;have aM := Cq ag hg;have dz := Aq ag hg;replace Ai := bB Ai hb;replace aa := bB aa hb;replace af := bB af hb;replace ag := bB ag hb;replace HB := bS HB hb;clear hb yI hg;have gY := dn.out;have jg := aH.out;have gZ := dw.out;have jh := aI.out;have ib := dx.out;have ji := aK.out;have ic := dz.out;have jk := aM.out;have eX := AO aQ;have fO := bf aQ;have ig := aT.out;have jl := aj.out;have a2o := aJ.out;have a2x := ah.out;have a2p := aU.out;have a2y := bq.out;have a2e := Fy af;have a2g := bf af) | ((with_reducible refine yz (f := 43) rfl ?_);refine gL (some 108) Tryz.func43 #[.agg #[.int .i64 yj,.slice yK yg.length yE,.int .i64 ym,.int .i64 yn,.slice (some bM) l1.length c1,.int .i64 (wrap64 (t226 - yn)),.int .i64 t226],.int .i64 ((yh l1 ak).f0)] ?_;(with_reducible refine (BO.calls k2 yj _ _ yg ym yn _ _ l1 (wrap64 (t226 - yn)) t226 ((yh l1 ak).f0) true _ ?yB ?yC ?zI ?zJ dE.out).mono ?_);(case yB => exact Kd.CE zk.out (bO HB));(case yC => exact zq.out);(case zI => exact Kd.CE HR1.out (bO HB));(case zJ => exact Gt.out);rintro e w143 ⟨rfl,hb⟩;refine ⟨_,rfl,?_⟩;replace Ai := yf.mk (yZ (g := Dg) (o := .cells #[.int .i64 yj,.slice yK yg.length yE,.int .i64 ym,.int .i64 yn] 29 (0,0)) (by refine kp ?_;refine yV ?_ aH.out _;refine kp ?_;refine yV ?_ aH.out _;refine kp ?_;refine yV ?_ aH.out _;refine kp ?_;refine yV ?_ aH.out _;refine kp ?_;exact Ai.out) hb);replace aa := yf.mk (yZ (g := au) (o := .cells #[.int .i64 bT,.slice none 0 0,.int .i64 bU,.int .i64 bV,.slice none 0 0,.int .i64 bW,.int .i64 bX] 65 (0,0)) (by refine kp ?_;refine yV ?_ aI.out _;refine kp ?_;refine yV ?_ aI.out _;refine kp ?_;refine yV ?_ aI.out _;refine kp ?_;refine yV ?_ aI.out _;refine kp ?_;exact aa.out) hb);replace af := yf.mk (yZ (g := aC) (o := .cells #[.int .i64 yj,.slice yK yg.length yE,.int .i64 ym,.int .i64 yn,.slice (some bM) l1.length c1,.int .i64 (wrap64 (t226 - yn)),.int .i64 t226] 65 (0,0)) (by refine kp ?_;refine yV ?_ aK.out _;refine kp ?_;refine yV ?_ aK.out _;refine kp ?_;refine yV ?_ aK.out _;refine kp ?_;refine yV ?_ aK.out _;refine kp ?_;exact af.out) hb);replace ag := yf.mk (yZ (g := aA) (o := DT l1 ae) (by refine kp ?_;refine yV ?_ aM.out _;refine kp ?_;refine yV ?_ aM.out _;refine kp ?_;refine yV ?_ aM.out _;refine kp ?_;refine yV ?_ aM.out _;refine kp ?_;exact ag.out) hb);replace aQ := yf.mk (yZ (g := dB) (o := .cells #[.int .i64 ((yh l1 ak).f0),.int .i64 ((yh l1 ak).f1),.int .i64 ((yh l1 ak).f2.f0),.int .i64 ((yh l1 ak).f2.f1)] 60 (0,0)) (CY aQ rfl) hb);replace HB := bS HB hb;clear hb))
       go_roundg k2
       case measure => have := Bn.out;have := Di.out;omega
       case rel => exact ⟨(wrap64 (ak + 1)),(bT),(bU),(bV),(bW),(bX),(by rfl),H',⟨by have := Bn.out;have := Di.out;omega⟩,⟨kk Ai⟩,⟨kk aa⟩,⟨kk af⟩,⟨kk ag⟩,⟨bO HB⟩⟩
      ·
       replace cK := Bool.eq_false_iff.mpr cK;subst cK
       rw [if_neg (show ¬ (false = true) by decide)] at H
       simp only [Option.some.injEq,Prod.mk.injEq] at H;obtain ⟨rfl,rfl,rfl,rfl,rfl,rfl,rfl,rfl⟩ := H
       have bu : 0 ≤ (ak : Int) := of_decide_eq_true ‹_›
       have bv : ak < (l1.length : Int) := of_decide_eq_true ‹_›
       obtain ⟨bM,e234,bN,bP,bQ,bR⟩ := Ck HR1.out ak bu bv;cases e234;replace bN := cB HB bN;replace bP := cB HB bP;replace bQ := cB HB bQ;replace bR := cB HB bR;replace bu := eq_true bu;replace bv := eq_true bv
       go_wp2_with (first | ((with_reducible refine yG (N := 12) rfl ?_);refine yD rfl (N := 12) rfl (cs := #[.int .i64 0,.int .i64 0,.int .i64 0,.int .i64 0]) (t := 60) (by go_simp) ?_;intro dB hg w144 yI hb;have aQ := yf.mk (yI);have dR := bG (w := w) hg;have dO := bG (w := w) hg;have aH := Cq Ai hg;have dn := Aq Ai hg;have aI := Cq aa hg;have dw := Aq aa hg;have aK := Cq af hg;have dx := Aq af hg;have aM := Cq ag hg;have dz := Aq ag hg;replace Ai := bB Ai hb;replace aa := bB aa hb;replace af := bB af hb;replace ag := bB ag hb;replace HB := bS HB hb;clear hb yI hg;have a2q := dn.out;have a2z := aH.out;have ik := dw.out;have jm := aI.out;have il := dx.out;have jo := aK.out;have iq := dz.out;have jq := aM.out;have eY := AO aQ;have fP := bf aQ;have iw := aT.out;have jr := aj.out;have iy := aJ.out;have jv := ah.out;have iA := aU.out;have jw := bq.out;have eZ := Fy af;have fQ := bf af) | ((with_reducible refine yz (f := 43) rfl ?_);refine gL (some 108) Tryz.func43 #[.agg #[.int .i64 yj,.slice yK yg.length yE,.int .i64 ym,.int .i64 yn,.slice (some bM) l1.length c1,.int .i64 (wrap64 (t226 - yn)),.int .i64 t226],.int .i64 ((yh l1 ak).f0)] ?_;(with_reducible refine (BO.calls k2 yj _ _ yg ym yn _ _ l1 (wrap64 (t226 - yn)) t226 ((yh l1 ak).f0) false _ ?yB ?yC ?zI ?zJ dE.out).mono ?_);(case yB => exact Kd.CE zk.out (bO HB));(case yC => exact zq.out);(case zI => exact Kd.CE HR1.out (bO HB));(case zJ => exact Gt.out);rintro e w154 ⟨rfl,hb⟩;refine ⟨_,rfl,?_⟩;replace Ai := yf.mk (yZ (g := Dg) (o := .cells #[.int .i64 yj,.slice yK yg.length yE,.int .i64 ym,.int .i64 yn] 29 (0,0)) (by refine kp ?_;refine yV ?_ aH.out _;refine kp ?_;refine yV ?_ aH.out _;refine kp ?_;refine yV ?_ aH.out _;refine kp ?_;refine yV ?_ aH.out _;refine kp ?_;exact Ai.out) hb);replace aa := yf.mk (yZ (g := au) (o := .cells #[.int .i64 bT,.slice none 0 0,.int .i64 bU,.int .i64 bV,.slice none 0 0,.int .i64 bW,.int .i64 bX] 65 (0,0)) (by refine kp ?_;refine yV ?_ aI.out _;refine kp ?_;refine yV ?_ aI.out _;refine kp ?_;refine yV ?_ aI.out _;refine kp ?_;refine yV ?_ aI.out _;refine kp ?_;exact aa.out) hb);replace af := yf.mk (yZ (g := aC) (o := .cells #[.int .i64 yj,.slice yK yg.length yE,.int .i64 ym,.int .i64 yn,.slice (some bM) l1.length c1,.int .i64 (wrap64 (t226 - yn)),.int .i64 t226] 65 (0,0)) (by refine kp ?_;refine yV ?_ aK.out _;refine kp ?_;refine yV ?_ aK.out _;refine kp ?_;refine yV ?_ aK.out _;refine kp ?_;refine yV ?_ aK.out _;refine kp ?_;exact af.out) hb);replace ag := yf.mk (yZ (g := aA) (o := DT l1 ae) (by refine kp ?_;refine yV ?_ aM.out _;refine kp ?_;refine yV ?_ aM.out _;refine kp ?_;refine yV ?_ aM.out _;refine kp ?_;refine yV ?_ aM.out _;refine kp ?_;exact ag.out) hb);replace aQ := yf.mk (yZ (g := dB) (o := .cells #[.int .i64 ((yh l1 ak).f0),.int .i64 ((yh l1 ak).f1),.int .i64 ((yh l1 ak).f2.f0),.int .i64 ((yh l1 ak).f2.f1)] 60 (0,0)) (CY aQ rfl) hb);replace HB := bS HB hb;clear hb;have iB := aG.out;have jy := aD.out;have iC := bA.out;have jA := bL.out;have fe := Fy aa;have fT := bf aa))
       refine bodyPost_ret (BB rfl _ _ au 65 #[.int .i64 0,.slice none 0 0,.int .i64 0,.int .i64 0,.slice none 0 0,.int .i64 0,.int .i64 0] (0,0) _ rfl (CY aa rfl) Tryz.underlying65 rfl (by kernel_rfl)) rfl ?_
       exact ⟨_,_,by rfl,by exact Kd.Fp _ _ _ _ _,by exact Kd.Fp _ _ _ _ _,bO HB⟩
     ·
      rw [if_neg c130] at H;exact absurd H (by simp)
    ·
     rw [if_neg cz] at H;exact absurd H (by simp)
   ·
    rw [if_neg bC] at H;have dV := decide_eq_false bC;clear bC;simp only [Option.some.injEq,Prod.mk.injEq] at H;obtain ⟨rfl,rfl,rfl,rfl,rfl,rfl,rfl,rfl⟩ := H;have iD := aG.out;have jB := aD.out;have iE := ah.out;have jC := aJ.out;have iF := bA.out;have jD := bL.out;have fo := Fy aa;have fU := bf aa;have fD := Fy af;have gz := bf af
    go_wp2
    refine bodyPost_ret (BB rfl _ _ au 65 #[.int .i64 yj,(.slice yK yg.length yE),.int .i64 ym,.int .i64 yn,(.slice A1 l1.length c1),.int .i64 (wrap64 (t226 - yn)),.int .i64 t226] (0,0) _ rfl (CY aa rfl) Tryz.underlying65 rfl (by kernel_rfl)) rfl ?_
    exact ⟨_,_,by rfl,Kd.yL (Kd.zw HS0.out (bO HB)) (fun k_ hk => .inl (.inl hk)),Kd.yL (Kd.zw dS.out (bO HB)) (fun k_ hk => .inl (.inr hk)),bO HB⟩
 rw [if_pos I4] at H;have JE := decide_eq_true I4;clear I4
 by_cases c23 : 0 ≤ ae
 rotate_left
 ·
  rw [if_neg c23] at H;exact absurd H (by simp)
 rw [if_pos c23] at H;have Qk := decide_eq_true c23;have dG := yf.mk (show 0 ≤ ae ∧ ae < (l1.length : Int) from ⟨c23,of_decide_eq_true ‹_›⟩);clear c23
 by_cases c24 : ae < (l1.length : Int)
 rotate_left
 ·
  rw [if_neg c24] at H;exact absurd H (by simp)
 rw [if_pos c24] at H;have Kj := decide_eq_true c24;clear c24;obtain ⟨a2K,Vt,H⟩ := bE H
 try dsimp only at H
 by_cases K7 : a2K = true
 rotate_left
 ·
  replace K7 := Bool.eq_false_iff.mpr K7;subst K7
  rw [if_neg (show ¬ (false = true) by decide)] at H
  simp only [Option.some.injEq,Prod.mk.injEq] at H;obtain ⟨rfl,rfl,rfl,rfl,rfl,rfl,rfl,rfl⟩ := H
  have Jz : 0 ≤ (ae : Int) := of_decide_eq_true ‹_›
  have JA : ae < (l1.length : Int) := of_decide_eq_true ‹_›
  obtain ⟨FU,e229,H9,bF,bH,bI⟩ := Ck HR1.out ae Jz JA;cases e229;replace H9 := cB HB H9;replace bF := cB HB bF;replace bH := cB HB bH;replace bI := cB HB bI;replace Jz := eq_true Jz;replace JA := eq_true JA
  go_wp2_with (first | ((with_reducible refine yG (N := 10) rfl ?_);refine yD rfl (N := 10) rfl (cs := #[.int .i64 0,.int .i64 0,.int .i64 0,.int .i64 0]) (t := 60) (by go_simp) ?_;intro EF hg w114 yI hb;have Ak := yf.mk (yI);have ZH := bG (w := w) hg;have ZE := bG (w := w) hg;have ax := Cq Ai hg;have aV := Aq Ai hg;have av := Cq aa hg;have aN := Aq aa hg;have ay := Cq af hg;have aW := Aq af hg;have az := Cq ag hg;have aX := Aq ag hg;replace Ai := bB Ai hb;replace aa := bB aa hb;replace af := bB af hb;replace ag := bB ag hb;replace HB := bS HB hb;clear hb yI hg;have gN := aV.out;have j5 := ax.out;have gP := aN.out;have j6 := av.out;have gQ := aW.out;have ja := ay.out;have gT := aX.out;have jb := az.out;have eQ := AO Ak;have fJ := bf Ak;have gU := aT.out;have jc := aj.out;have gV := aJ.out;have jd := ah.out;have gW := aU.out;have je := bq.out;have eT := Fy af;have fK := bf af) | ((with_reducible refine yz (f := 50) rfl ?_);refine gL (some 39) Tryz.func50 #[.agg #[.int .i64 yj,.slice yK yg.length yE,.int .i64 ym,.int .i64 yn,.slice (some FU) l1.length c1,.int .i64 (wrap64 (t226 - yn)),.int .i64 t226],.int .i64 ((yh l1 ae).f0),.int .i64 ((yh l1 ae).f1)] ?_;(with_reducible refine (Dy.calls yj _ _ yg ym yn _ _ l1 (wrap64 (t226 - yn)) t226 ((yh l1 ae).f0) ((yh l1 ae).f1) false _ ?yB ?yC ?zI ?zJ Vt.out).mono ?_);(case yB => exact Kd.CE zk.out (bO HB));(case yC => exact zq.out);(case zI => exact Kd.CE HR1.out (bO HB));(case zJ => exact Gt.out);rintro e w124 ⟨rfl,hb⟩;refine ⟨_,rfl,?_⟩;replace Ai := yf.mk (yZ (g := Dg) (o := .cells #[.int .i64 yj,.slice yK yg.length yE,.int .i64 ym,.int .i64 yn] 29 (0,0)) (by refine kp ?_;refine yV ?_ ax.out _;refine kp ?_;refine yV ?_ ax.out _;refine kp ?_;refine yV ?_ ax.out _;refine kp ?_;refine yV ?_ ax.out _;refine kp ?_;exact Ai.out) hb);replace aa := yf.mk (yZ (g := au) (o := .cells #[.int .i64 aY,.slice none 0 0,.int .i64 aZ,.int .i64 bg,.slice none 0 0,.int .i64 bi,.int .i64 bn] 65 (0,0)) (by refine kp ?_;refine yV ?_ av.out _;refine kp ?_;refine yV ?_ av.out _;refine kp ?_;refine yV ?_ av.out _;refine kp ?_;refine yV ?_ av.out _;refine kp ?_;exact aa.out) hb);replace af := yf.mk (yZ (g := aC) (o := .cells #[.int .i64 yj,.slice yK yg.length yE,.int .i64 ym,.int .i64 yn,.slice (some FU) l1.length c1,.int .i64 (wrap64 (t226 - yn)),.int .i64 t226] 65 (0,0)) (by refine kp ?_;refine yV ?_ ay.out _;refine kp ?_;refine yV ?_ ay.out _;refine kp ?_;refine yV ?_ ay.out _;refine kp ?_;refine yV ?_ ay.out _;refine kp ?_;exact af.out) hb);replace ag := yf.mk (yZ (g := aA) (o := DT l1 ae) (by refine kp ?_;refine yV ?_ az.out _;refine kp ?_;refine yV ?_ az.out _;refine kp ?_;refine yV ?_ az.out _;refine kp ?_;refine yV ?_ az.out _;refine kp ?_;exact ag.out) hb);replace Ak := yf.mk (yZ (g := EF) (o := .cells #[.int .i64 ((yh l1 ae).f0),.int .i64 ((yh l1 ae).f1),.int .i64 ((yh l1 ae).f2.f0),.int .i64 ((yh l1 ae).f2.f1)] 60 (0,0)) (CY Ak rfl) hb);replace HB := bS HB hb;clear hb;have gX := aG.out;have jf := aD.out;have a2n := bA.out;have a2w := bL.out;have eU := Fy aa;have fM := bf aa))
  refine bodyPost_ret (BB rfl _ _ au 65 #[.int .i64 0,.slice none 0 0,.int .i64 0,.int .i64 0,.slice none 0 0,.int .i64 0,.int .i64 0] (0,0) _ rfl (CY aa rfl) Tryz.underlying65 rfl (by kernel_rfl)) rfl ?_
  exact ⟨_,_,by rfl,by exact Kd.Fp _ _ _ _ _,by exact Kd.Fp _ _ _ _ _,bO HB⟩
 subst K7;rw [if_pos rfl] at H;have RI := yf.mk H;clear H
 have Jz : 0 ≤ (ae : Int) := of_decide_eq_true ‹_›
 have JA : ae < (l1.length : Int) := of_decide_eq_true ‹_›
 obtain ⟨FU,e229,H9,bF,bH,bI⟩ := Ck HR1.out ae Jz JA;cases e229;replace H9 := cB HB H9;replace bF := cB HB bF;replace bH := cB HB bH;replace bI := cB HB bI;replace Jz := eq_true Jz;replace JA := eq_true JA
 go_upto_region 11 with (first | ((with_reducible refine yG (N := 10) rfl ?_);refine yD rfl (N := 10) rfl (cs := #[.int .i64 0,.int .i64 0,.int .i64 0,.int .i64 0]) (t := 60) (by go_simp) ?_;intro EF hg w28 yI hb;have Ak := yf.mk (yI);have ZH := bG (w := w) hg;have ZE := bG (w := w) hg;have ax := Cq Ai hg;have aV := Aq Ai hg;have av := Cq aa hg;have aN := Aq aa hg;have ay := Cq af hg;have aW := Aq af hg;have az := Cq ag hg;have aX := Aq ag hg;replace Ai := bB Ai hb;replace aa := bB aa hb;replace af := bB af hb;replace ag := bB ag hb;replace HB := bS HB hb;clear hb yI hg;have TZ := aV.out;have Ua := ax.out;have OI := aN.out;have OJ := av.out;have X5 := aW.out;have Xi := ay.out;have QL := aX.out;have QP := az.out;have Nz := AO Ak;have NF := bf Ak;have U0 := aT.out;have Ub := aj.out;have U1 := aJ.out;have Uc := ah.out;have U2 := aU.out;have Ud := bq.out;have Kv := Fy af;have KD := bf af) | ((with_reducible refine yz (f := 50) rfl ?_);refine gL (some 39) Tryz.func50 #[.agg #[.int .i64 yj,.slice yK yg.length yE,.int .i64 ym,.int .i64 yn,.slice (some FU) l1.length c1,.int .i64 (wrap64 (t226 - yn)),.int .i64 t226],.int .i64 ((yh l1 ae).f0),.int .i64 ((yh l1 ae).f1)] ?_;(with_reducible refine (Dy.calls yj _ _ yg ym yn _ _ l1 (wrap64 (t226 - yn)) t226 ((yh l1 ae).f0) ((yh l1 ae).f1) true _ ?yB ?yC ?zI ?zJ Vt.out).mono ?_);(case yB => exact Kd.CE zk.out (bO HB));(case yC => exact zq.out);(case zI => exact Kd.CE HR1.out (bO HB));(case zJ => exact Gt.out);rintro e w38 ⟨rfl,hb⟩;refine ⟨_,rfl,?_⟩;replace Ai := yf.mk (yZ (g := Dg) (o := .cells #[.int .i64 yj,.slice yK yg.length yE,.int .i64 ym,.int .i64 yn] 29 (0,0)) (by refine kp ?_;refine yV ?_ ax.out _;refine kp ?_;refine yV ?_ ax.out _;refine kp ?_;refine yV ?_ ax.out _;refine kp ?_;refine yV ?_ ax.out _;refine kp ?_;exact Ai.out) hb);replace aa := yf.mk (yZ (g := au) (o := .cells #[.int .i64 aY,.slice none 0 0,.int .i64 aZ,.int .i64 bg,.slice none 0 0,.int .i64 bi,.int .i64 bn] 65 (0,0)) (by refine kp ?_;refine yV ?_ av.out _;refine kp ?_;refine yV ?_ av.out _;refine kp ?_;refine yV ?_ av.out _;refine kp ?_;refine yV ?_ av.out _;refine kp ?_;exact aa.out) hb);replace af := yf.mk (yZ (g := aC) (o := .cells #[.int .i64 yj,.slice yK yg.length yE,.int .i64 ym,.int .i64 yn,.slice (some FU) l1.length c1,.int .i64 (wrap64 (t226 - yn)),.int .i64 t226] 65 (0,0)) (by refine kp ?_;refine yV ?_ ay.out _;refine kp ?_;refine yV ?_ ay.out _;refine kp ?_;refine yV ?_ ay.out _;refine kp ?_;refine yV ?_ ay.out _;refine kp ?_;exact af.out) hb);replace ag := yf.mk (yZ (g := aA) (o := DT l1 ae) (by refine kp ?_;refine yV ?_ az.out _;refine kp ?_;refine yV ?_ az.out _;refine kp ?_;refine yV ?_ az.out _;refine kp ?_;refine yV ?_ az.out _;refine kp ?_;exact ag.out) hb);replace Ak := yf.mk (yZ (g := EF) (o := .cells #[.int .i64 ((yh l1 ae).f0),.int .i64 ((yh l1 ae).f1),.int .i64 ((yh l1 ae).f2.f0),.int .i64 ((yh l1 ae).f2.f1)] 60 (0,0)) (CY Ak rfl) hb);replace HB := bS HB hb;clear hb))
 (try simp only [pz])
 go_cut [57] (fun v57 wc => ∃ (kq : Nat) (di : Bool),v57 = .bool di ∧ yf (yS.j1 kq l1 l1 (l1.length : Int) ae di yj yg ym yn yj yg ym yn l1 (wrap64 (t226 - yn)) t226 ((yh l1 ae).f0) ((yh l1 ae).f1) ((yh l1 ae).f2.f0) ((yh l1 ae).f2.f1) = some (r1,r2,r3,r4,r5,r6,r7,r8)) ∧ yf (kq ≤ k1) ∧ yf (wc.heap[Dg]? = some (.cells #[.int .i64 yj,(.slice yK yg.length yE),.int .i64 ym,.int .i64 yn] 29 (0,0))) ∧ yf (wc.heap[au]? = some (.cells #[.int .i64 aY,(.slice none 0 0),.int .i64 aZ,.int .i64 bg,(.slice none 0 0),.int .i64 bi,.int .i64 bn] 65 (0,0))) ∧ yf (wc.heap[aC]? = some (.cells #[.int .i64 yj,(.slice yK yg.length yE),.int .i64 ym,.int .i64 yn,(.slice (some FU) l1.length c1),.int .i64 (wrap64 (t226 - yn)),.int .i64 t226] 65 (0,0))) ∧ yf (wc.heap[aA]? = some (DT l1 ae)) ∧ yf (wc.heap[EF]? = some (.cells #[.int .i64 ((yh l1 ae).f0),.int .i64 ((yh l1 ae).f1),.int .i64 ((yh l1 ae).f2.f0),.int .i64 ((yh l1 ae).f2.f1)] 60 (0,0))) ∧ yf (Below w.heap.size w wc))
 case first =>
  have H := RI.out;clear RI
  by_cases Il : ae > 0
  rotate_left
  ·
   rw [if_neg Il] at H;have LG := decide_eq_false Il;clear Il
   (skip)
   have H' := yf.mk H;clear H
   try go_wp2
   replace Ai := yf.mk (zl Ai.out);replace aa := yf.mk (zl aa.out);replace af := yf.mk (zl af.out);replace ag := yf.mk (zl ag.out);replace Ak := yf.mk (zl Ak.out);replace HB := yf.mk (zt HB.out)
   refine Bt (n := 16) (S := fun w' => True) (ds := []) (bz 16 0) (by kernel_rfl) rfl rfl trivial (fun hHeld => ?_);refine Ab yS.a1b yS.VI (fun yJ Bv => ?_)
   generalize w38.drew = w46 at Ai aa af ag Ak HB hHeld ⊢;refine pU 0 42 16 1 yJ ?_;refine pU 1 43 16 3 yJ ?_;refine pU 2 44 16 7 yJ ?_;refine pN 3 45 16 15 yJ ?_;refine pN 4 46 16 31 yJ ?_;refine pN 5 47 16 63 yJ ?_;refine pN 6 48 16 127 yJ ?_;refine pN 7 49 16 255 yJ ?_;refine pN 8 50 16 511 yJ ?_;refine pN 9 51 16 1023 yJ ?_;refine pN 10 52 16 2047 yJ ?_;refine pN 11 53 16 4095 yJ ?_;refine pN 12 54 16 8191 yJ ?_;refine pN 13 55 16 16383 yJ ?_;refine pN 14 56 16 32767 yJ ?_;refine pU 15 57 16 65535 yJ ?_
   refine Cn (AZ yJ.out (by kernel_rfl)) ?_
   try go_wp2
   go_meet
   case rel => exact ⟨_,(false),(by rfl),H',⟨by have := Bn.out;omega⟩,⟨kk Ai⟩,⟨kk aa⟩,⟨kk af⟩,⟨kk ag⟩,⟨kk Ak⟩,⟨bO HB⟩⟩
  rw [if_pos Il] at H;have LG := decide_eq_true Il;clear Il
  (skip)
  obtain ⟨ai,dH⟩ : ∃ j_ : Int,(wrap64 (ae - 1)) = j_ := ⟨_,rfl⟩
  replace H : (if 0 ≤ (ai) then (if (ai) < (l1.length : Int) then ((Bj.f k1 ((yh l1 (ai)).f0) ((yh l1 (ai)).f1) ((yh l1 (ai)).f2.f0) ((yh l1 (ai)).f2.f1) ((yh l1 ae).f0) ((yh l1 ae).f1)).bind fun t233 => (yS.j1 k1 l1 l1 (l1.length : Int) ae (decide (t233 ≥ 0)) yj yg ym yn yj yg ym yn l1 (wrap64 (t226 - yn)) t226 ((yh l1 ae).f0) ((yh l1 ae).f1) ((yh l1 ae).f2.f0) ((yh l1 ae).f2.f1))) else (none)) else (none)) = some (r1,r2,r3,r4,r5,r6,r7,r8) := by (rw [dH] at H;exact H)
  have hji40w : (IntKind.i64.wrap (ae - 1)) = ai := (i64_w _).trans dH
  by_cases Jy : 0 ≤ (ai)
  rotate_left
  ·
   rw [if_neg Jy] at H;exact absurd H (by simp)
  rw [if_pos Jy] at H;have TB := decide_eq_true Jy;clear Jy
  by_cases Iz : (ai) < (l1.length : Int)
  rotate_left
  ·
   rw [if_neg Iz] at H;exact absurd H (by simp)
  rw [if_pos Iz] at H;have Kl := decide_eq_true Iz;clear Iz;obtain ⟨t233,A43,H⟩ := bE H
  try dsimp only at H
  have H' := yf.mk H;clear H
  try go_wp2
  replace Ai := yf.mk (zl Ai.out);replace aa := yf.mk (zl aa.out);replace af := yf.mk (zl af.out);replace ag := yf.mk (zl ag.out);replace Ak := yf.mk (zl Ak.out);replace HB := yf.mk (zt HB.out)
  have dC : 0 ≤ ((ai) : Int) := of_decide_eq_true ‹_›
  have dD : (ai) < (l1.length : Int) := of_decide_eq_true ‹_›
  obtain ⟨dU,e232,cZ,d9,df,dh⟩ := Ck HR1.out (ai) dC dD;have dL := dh;have dK := df;have dJ := d9;have dI := cZ;obtain rfl : FU = dU := (by injection e232);replace cZ := cB HB cZ;replace d9 := cB HB d9;replace df := cB HB df;replace dh := cB HB dh;replace dC := eq_true dC;replace dD := eq_true dD
  refine Bt (n := 16) (S := fun w' => w'.cell? ⟨EF,0,none⟩ = some (.int .i64 ((yh l1 ae).f0)) ∧ w'.cell? ⟨EF,1,none⟩ = some (.int .i64 ((yh l1 ae).f1)) ∧ w'.cell? ⟨EF,2,none⟩ = some (.int .i64 ((yh l1 ae).f2.f0)) ∧ w'.cell? ⟨EF,3,none⟩ = some (.int .i64 ((yh l1 ae).f2.f1)) ∧ w'.cell? (FU.add (((ai)).toNat * 4)) = some (.int .i64 ((yh l1 (ai)).f0)) ∧ w'.cell? ⟨(FU.add (((ai)).toNat * 4)).block,(FU.add (((ai)).toNat * 4)).off + 1,none⟩ = some (.int .i64 ((yh l1 (ai)).f1)) ∧ w'.cell? ⟨(FU.add (((ai)).toNat * 4)).block,(FU.add (((ai)).toNat * 4)).off + 2,none⟩ = some (.int .i64 ((yh l1 (ai)).f2.f0)) ∧ w'.cell? ⟨(FU.add (((ai)).toNat * 4)).block,(FU.add (((ai)).toNat * 4)).off + 3,none⟩ = some (.int .i64 ((yh l1 (ai)).f2.f1))) (ds := []) (bz 16 0) (by kernel_rfl) rfl rfl ⟨(yx Ak.out 0).trans rfl,(yx Ak.out 1).trans rfl,(yx Ak.out 2).trans rfl,(yx Ak.out 3).trans rfl,(cB HB dI),(cB HB dJ),(cB HB dK),(cB HB dL)⟩ (fun hHeld => ?_);refine Ab yS.a1b yS.VI (fun yJ Bv => ?_)
  generalize w38.drew = w44 at Ai aa af ag Ak HB cZ d9 df dh hHeld ⊢;refine pU 0 42 16 1 yJ ?_;refine pU 1 43 16 3 yJ ?_;refine pU 2 44 16 7 yJ ?_;refine pU 3 45 16 15 yJ ?_;refine pU 4 46 16 31 yJ ?_;refine pU 5 47 16 63 yJ ?_;refine pU 6 48 16 127 yJ ?_;refine pU 8 50 16 383 yJ ?_;refine pU 10 52 16 1407 yJ ?_
  refine Co 7 49 16 1535 yJ Bv hHeld ?_
  refine Co 9 51 16 2047 yJ Bv hHeld ?_
  refine Co 11 53 16 4095 yJ Bv hHeld ?_
  refine pU 12 54 16 8191 yJ ?_
  refine CB (i := 13) (N := some 55) (bz 16 16383) rfl rfl (Ar yJ.out (by kernel_rfl)) (by decide) (fun K hK => ?_)
  refine a03 Tryz.func25 (by kernel_rfl) rfl #[.agg #[.int .i64 ((yh l1 (ai)).f0),.int .i64 ((yh l1 (ai)).f1),.int .i64 ((yh l1 (ai)).f2.f0),.int .i64 ((yh l1 (ai)).f2.f1)],.agg #[.int .i64 ((yh l1 ae).f0),.int .i64 ((yh l1 ae).f1)]] (by rfl) rfl rfl (by (try simp only [List.map_toArray,List.map_cons,List.map_nil]);rfl) ?_
  with_reducible refine (Bj.calls k1 ((yh l1 (ai)).f0) ((yh l1 (ai)).f1) ((yh l1 (ai)).f2.f0) ((yh l1 (ai)).f2.f1) ((yh l1 ae).f0) ((yh l1 ae).f1) t233 _ A43.out).mono ?_
  rintro e w45 ⟨rfl,hb⟩
  refine ⟨_,rfl,?_⟩
  replace Ai := bB Ai hb;replace aa := bB aa hb;replace af := bB af hb;replace ag := bB ag hb;replace Ak := bB Ak hb;replace HB := bS HB hb;clear hb
  refine hK.out _ _ ⟨(yx Ak.out 0).trans rfl,(yx Ak.out 1).trans rfl,(yx Ak.out 2).trans rfl,(yx Ak.out 3).trans rfl,(cB HB dI),(cB HB dJ),(cB HB dK),(cB HB dL)⟩ (fun hHeld => ?_)
  clear hK K
  refine AU (a' := ?_) ?_ ?_
  rotate_left
  ·
   show Act.put _ (some 55) _ = _
   simp only [pz]
   rfl
  refine pU 14 56 16 32767 yJ ?_;refine pU 15 57 16 65535 yJ ?_
  refine Cn (AZ yJ.out (by kernel_rfl)) ?_
  try go_wp2
  go_meet
  case rel => exact ⟨_,(decide (t233 ≥ 0)),(by rfl),H',⟨by have := Bn.out;omega⟩,⟨kk Ai⟩,⟨kk aa⟩,⟨kk af⟩,⟨kk ag⟩,⟨kk Ak⟩,⟨bO HB⟩⟩
 case rest =>
 clear RI JE Qk Kj Nz Kv NF KD H9 bF bH bI Jz JA;obtain ⟨kq,di,rfl,HA,MR,Ai,aa,af,ag,Ak,HB⟩ := hcut
 cases kq with
 | zero => exact absurd HA.out (by simp [yS.j1])
 | succ Zh =>
  have H := HA.out;clear HA;simp only [yS.j1] at H
  by_cases IR : di = true
  ·
   subst IR;rw [if_pos rfl] at H;simp only [Option.some.injEq,Prod.mk.injEq] at H;obtain ⟨rfl,rfl,rfl,rfl,rfl,rfl,rfl,rfl⟩ := H;have X8 := aG.out;have Xl := aD.out;have X9 := ah.out;have Xm := aJ.out;have QN := bA.out;have QR := bL.out;have U6 := av.out;have Uh := aN.out;have QC := Fy aa;have QI := bf aa
   go_wp2
   refine bodyPost_ret (BB rfl _ _ au 65 #[.int .i64 0,.slice none 0 0,.int .i64 0,.int .i64 0,.slice none 0 0,.int .i64 0,.int .i64 0] (0,0) _ rfl (CY aa rfl) Tryz.underlying65 rfl (by kernel_rfl)) rfl ?_
   exact ⟨_,_,by rfl,by exact Kd.Fp _ _ _ _ _,by exact Kd.Fp _ _ _ _ _,bO HB⟩
  ·
   replace IR := Bool.eq_false_iff.mpr IR;subst IR
   rw [if_neg (show ¬ (false = true) by decide)] at H
   have dm := yf.mk H;clear H
   go_upto_region 13 with (fail)
   go_cut [93] (fun v93 wc => ∃ (kq : Nat) (bY : Bool),v93 = .bool bY ∧ yf (yS.j2 kq l1 l1 (l1.length : Int) ae bY yj yg ym yn yj yg ym yn l1 (wrap64 (t226 - yn)) t226 = some (r1,r2,r3,r4,r5,r6,r7,r8)) ∧ yf (kq ≤ Zh) ∧ yf (wc.heap[Dg]? = some (.cells #[.int .i64 yj,(.slice yK yg.length yE),.int .i64 ym,.int .i64 yn] 29 (0,0))) ∧ yf (wc.heap[au]? = some (.cells #[.int .i64 aY,(.slice none 0 0),.int .i64 aZ,.int .i64 bg,(.slice none 0 0),.int .i64 bi,.int .i64 bn] 65 (0,0))) ∧ yf (wc.heap[aC]? = some (.cells #[.int .i64 yj,(.slice yK yg.length yE),.int .i64 ym,.int .i64 yn,(.slice (some FU) l1.length c1),.int .i64 (wrap64 (t226 - yn)),.int .i64 t226] 65 (0,0))) ∧ yf (wc.heap[aA]? = some (DT l1 ae)) ∧ yf (wc.heap[EF]? = some (.cells #[.int .i64 ((yh l1 ae).f0),.int .i64 ((yh l1 ae).f1),.int .i64 ((yh l1 ae).f2.f0),.int .i64 ((yh l1 ae).f2.f1)] 60 (0,0))) ∧ yf (Below w.heap.size w wc) ∧ yf (bY = false → Jf l1 ae = false))
   case first =>
    have H := dm.out;clear dm
    by_cases Mi : ((yh l1 ae).f2.f0) < 0
    ·
     rw [if_pos Mi] at H;have Qn := decide_eq_true Mi;clear Mi
     (skip)
     have H' := yf.mk H;clear H;have a0A := aV.out;have a0R := ax.out;have Xa := aN.out;have Xn := av.out;have a0B := aW.out;have a0S := ay.out;have a0C := aX.out;have a0T := az.out;have WR := AO Ak;have WW := bf Ak
     go_wp2
     go_meet
     case rel => exact ⟨_,(true),(by rfl),H',⟨by have := Bn.out;have := MR.out;omega⟩,⟨kk Ai⟩,⟨kk aa⟩,⟨kk af⟩,⟨kk ag⟩,⟨kk Ak⟩,⟨bO HB⟩,⟨fun h => by cases h⟩⟩
    ·
     rw [if_neg Mi] at H;have Qn := decide_eq_false Mi;clear Mi
     (skip)
     by_cases Ru : ((yh l1 ae).f2.f0) ≥ yj
     ·
      rw [if_pos Ru] at H;have ZW := decide_eq_true Ru;clear Ru;have H' := yf.mk H;clear H;have a4o := aV.out;have a4I := ax.out;have a4p := aN.out;have a4J := av.out;have a0D := aW.out;have a0U := ay.out;have iG := aX.out;have jE := az.out;have fq := AO Ak;have fV := bf Ak;have a0F := aD.out;have a0W := aG.out;have a4q := aj.out;have a4K := aT.out;have a4r := bJ.out;have a4L := bZ.out;have a3Q := AO Ai;have a4e := bf Ai
      go_wp2
      go_meet
      case rel => exact ⟨_,(true),(by rfl),H',⟨by have := Bn.out;have := MR.out;omega⟩,⟨kk Ai⟩,⟨kk aa⟩,⟨kk af⟩,⟨kk ag⟩,⟨kk Ak⟩,⟨bO HB⟩,⟨fun h => by cases h⟩⟩
     ·
      rw [if_neg Ru] at H;have ZW := decide_eq_false Ru;clear Ru
      by_cases c70 : ((yh l1 ae).f2.f1) < (wrap64 (t226 - yn))
      ·
       rw [if_pos c70] at H;have dW := decide_eq_true c70;clear c70;have H' := yf.mk H;clear H;have a0G := aV.out;have a0X := ax.out;have a4t := aN.out;have a4N := av.out;have iH := aW.out;have jF := ay.out;have a4u := aX.out;have a4O := az.out;have fu := AO Ak;have fZ := bf Ak;have iI := aD.out;have jG := aG.out;have a0H := aj.out;have a0Y := aT.out;have Xb := bJ.out;have Xo := bZ.out;have a0e := AO Ai;have a0r := bf Ai;have a0I := aJ.out;have a0Z := ah.out;have iJ := aU.out;have jH := bq.out;have fw := Fy af;have gp := bf af
       go_wp2
       go_meet
       case rel => exact ⟨_,(true),(by rfl),H',⟨by have := Bn.out;have := MR.out;omega⟩,⟨kk Ai⟩,⟨kk aa⟩,⟨kk af⟩,⟨kk ag⟩,⟨kk Ak⟩,⟨bO HB⟩,⟨fun h => by cases h⟩⟩
      ·
       rw [if_neg c70] at H;have dW := decide_eq_false c70;clear c70
       by_cases bD : ((yh l1 ae).f2.f1) ≥ t226
       ·
        rw [if_pos bD] at H;have dX := decide_eq_true bD;clear bD;have H' := yf.mk H;clear H;have a4x := aV.out;have a4R := ax.out;have iK := aN.out;have jI := av.out;have a4y := aW.out;have a4S := ay.out;have iL := aX.out;have jJ := az.out;have fA := AO Ak;have gq := bf Ak;have iM := aD.out;have jK := aG.out;have iN := aj.out;have jL := aT.out;have iO := bJ.out;have jM := bZ.out;have fB := AO Ai;have gu := bf Ai;have a4A := aJ.out;have a4U := ah.out;have iP := aU.out;have jN := bq.out;have fC := Fy af;have gy := bf af
        go_wp2
        go_meet
        case rel => exact ⟨_,(true),(by rfl),H',⟨by have := Bn.out;have := MR.out;omega⟩,⟨kk Ai⟩,⟨kk aa⟩,⟨kk af⟩,⟨kk ag⟩,⟨kk Ak⟩,⟨bO HB⟩,⟨fun h => by cases h⟩⟩
       ·
        rw [if_neg bD] at H;have dX := decide_eq_false bD;clear bD;have H' := yf.mk H;clear H;have iQ := aV.out;have jO := ax.out;have iR := aN.out;have jP := av.out;have iT := aW.out;have jQ := ay.out;have iU := aX.out;have jR := az.out;have eG := AO Ak;have fF := bf Ak;have gG := aD.out;have iV := aG.out;have a2k := aj.out;have a2t := aT.out;have a2l := bJ.out;have a2u := bZ.out;have eH := AO Ai;have fG := bf Ai;have gH := aJ.out;have iW := ah.out;have gI := aU.out;have iX := bq.out;have eO := Fy af;have fH := bf af;have dY := R7 l1 ae aA _ ag.out;simp only [Gc] at dY
        go_wp2
        go_meet
        case rel => exact ⟨_,(Jf l1 ae),(by rfl),H',⟨by have := Bn.out;have := MR.out;omega⟩,⟨kk Ai⟩,⟨kk aa⟩,⟨kk af⟩,⟨kk ag⟩,⟨kk Ak⟩,⟨bO HB⟩,⟨fun h => by exact h⟩⟩
   case rest =>
    clear dm;obtain ⟨kq,bY,rfl,HA,dF,Ai,aa,af,ag,Ak,HB,HSN⟩ := hcut
    cases kq with
    | zero => exact absurd HA.out (by simp [yS.j2])
    | succ ed =>
     have H := HA.out;clear HA;simp only [yS.j2] at H
     by_cases cu : bY = true
     ·
      subst cu;rw [if_pos rfl] at H;simp only [Option.some.injEq,Prod.mk.injEq] at H;obtain ⟨rfl,rfl,rfl,rfl,rfl,rfl,rfl,rfl⟩ := H;have gJ := aG.out;have iY := aD.out;have a2m := ah.out;have a2v := aJ.out;have gK := bA.out;have iZ := bL.out;have gM := av.out;have j4 := aN.out;have eP := Fy aa;have fI := bf aa
      go_wp2
      refine bodyPost_ret (BB rfl _ _ au 65 #[.int .i64 0,.slice none 0 0,.int .i64 0,.int .i64 0,.slice none 0 0,.int .i64 0,.int .i64 0] (0,0) _ rfl (CY aa rfl) Tryz.underlying65 rfl (by kernel_rfl)) rfl ?_
      exact ⟨_,_,by rfl,by exact Kd.Fp _ _ _ _ _,by exact Kd.Fp _ _ _ _ _,bO HB⟩
     ·
      replace cu := Bool.eq_false_iff.mpr cu;subst cu
      rw [if_neg (show ¬ (false = true) by decide)] at H
      have H' := yf.mk H;clear H;obtain ⟨jS,gF,dZ,cO⟩ := Vd l1 ae dG.out.1 dG.out.2 HR1.out.2.1 aA _ ag.out (HSN.out rfl);have fE := AO Ak;have gB := bf Ak
      go_wp2
      replace Ai := yf.mk (zL Ai.out cO (fun e => bJ.out (by injection e)))
      replace aa := yf.mk (zL aa.out cO (fun e => bA.out (by injection e)))
      replace af := yf.mk (zL af.out cO (fun e => aU.out (by injection e)))
      replace ag := yf.mk dZ;replace HB := yf.mk (HB.out.grown cO HB.out.size (fun k hk => by injection hk with hk;subst hk;exact dQ.out))
      go_roundg ed
      case measure => have := Bn.out;have := MR.out;have := dF.out;omega
      case rel => exact ⟨(wrap64 (ae + 1)),(aY),(aZ),(bg),(bi),(bn),(by rfl),H',⟨by have := Bn.out;have := MR.out;have := dF.out;omega⟩,⟨kk Ai⟩,⟨kk aa⟩,⟨kk af⟩,⟨kk ag⟩,⟨bO HB⟩⟩
end Go.Proofs.YtjonnfmoocijlaaGreat.P
