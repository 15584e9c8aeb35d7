/- Texts of a claim, packed. -/
import Derived.Test.YtjonnfmoocijlaaGreatE31
import Derived.Test.YtjonnfmoocijlaaGreatE33
set_option linter.all false
namespace Go.Proofs.YtjonnfmoocijlaaGreat.P
open Go.RowKit Go.Proofs.YtjonnfmoocijlaaGreatKW.PrintWords Go.Proofs.YtjonnfmoocijlaaGreatKW.PrintLast Go.Proofs.YtjonnfmoocijlaaGreatKW.PrintMore
attribute [local go_sem] zN zP Af Ag zz zA zO zQ
def Az.j0 : Nat → List (AP) → Bool → Int → List (List Int) → Int → Int → Option ((List (AP)) × Int)
 | 0,_,_,_,_,_,_ => none
 | k + 1,x8,x29,aa,ae,af,ag => if x29 = true then (some (([] : List (AP)),9)) else ((yl.f k aa ae af ag x8).bind fun a2P => (if a2P = true then (some (x8,0)) else (some (([] : List (AP)),1))))
def Az.f (k : Nat) (yj : Int) (yg : List (List Int)) (ym : Int) (yn : Int) (l1 : List (AP)) (CP : Int) (CQ : Int) (Df : Int) (DU : Int) : Option ((List (AP)) × Int) := (BD.f yj yg ym yn CP CQ).bind fun Y4 => (if Y4 = true then ((zi.f k l1 CP CQ Df DU).bind fun JB => (if Df = (-1) then (Az.j0 k JB ((JB.length : Int) == (l1.length : Int)) yj yg ym yn) else (Az.j0 k JB false yj yg ym yn))) else (some (([] : List (AP)),2)))
set_option maxHeartbeats 8000000 in
set_option maxRecDepth 100000 in
theorem Az.calls (k : Nat) (yj : Int) (yK : Option Addr) (yE : Nat) (yg : List (List Int)) (ym : Int) (yn : Int) (A1 : Option Addr) (c1 : Nat) (l1 : List (AP)) (CP : Int) (CQ : Int) (Df : Int) (DU : Int) (r1 : List (AP)) (r2 : Int) (w : World) (zS : Kd.C (Kd.slice 3 (Kd.int .i64)) w yK yg.length yg) (zT : yg.length ≤ yE) (hr1 : Kd.C DN w A1 l1.length l1) (hc1 : l1.length ≤ c1) (h : Az.f k yj yg ym yn l1 CP CQ Df DU = some (r1,r2)) :
  Calls Tryz.prog 21 #[.agg #[.int .i64 yj,.slice yK yg.length yE,.int .i64 ym,.int .i64 yn],.slice A1 l1.length c1,.agg #[.int .i64 CP,.int .i64 CQ,.int .i64 Df,.int .i64 DU]] w fun e w' => ∃ G7 : Value,e = .returned (.tuple #[G7,.int .i64 r2]) ∧ Kd.R DN 60 w' w.heap.size (fun _ => True) G7 r1 ∧ Below w.heap.size w w' := by
 have ET := Tryz.underlying29;have Ob := Tryz.underlying60;have zk := yf.mk zS;have zq := yf.mk zT;clear zS zT;have HR1 := yf.mk hr1;have Gt := yf.mk hc1;clear hr1 hc1;have HB := yf.mk (Below.refl w.heap.size w)
 have H : ((BD.f yj yg ym yn CP CQ).bind fun Y4 => (if Y4 = true then ((zi.f k l1 CP CQ Df DU).bind fun JB => (if Df = (-1) then (Az.j0 k JB ((JB.length : Int) == (l1.length : Int)) yj yg ym yn) else (Az.j0 k JB false yj yg ym yn))) else (some (([] : List (AP)),2)))) = some (r1,r2) := h
 clear h;obtain ⟨Y4,A4,H⟩ := bE H
 try dsimp only at H
 by_cases c5 : Y4 = true
 rotate_left
 ·
  replace c5 := Bool.eq_false_iff.mpr c5;subst c5
  rw [if_neg (show ¬ (false = true) by decide)] at H
  simp only [Option.some.injEq,Prod.mk.injEq] at H;obtain ⟨rfl,rfl⟩ := H
  go_enter Tryz.func21,Tryz.ntmps21
  go_wp2_with (first | ((with_reducible refine yG (N := 3) rfl ?_);(try (refine AX (by rfl) ?_;dsimp only));refine yD rfl (N := 3) rfl (cs := #[.int .i64 yj,.slice yK yg.length yE,.int .i64 ym,.int .i64 yn]) (t := 29) (by go_simp) ?_;intro ak hg w33 yI hb;have aa := yf.mk (yI);have ax := bG (w := w) hg;have au := bG (w := w) hg;replace HB := bS HB hb;clear hb yI hg) | ((with_reducible refine yG (N := 5) rfl ?_);(try (refine AX (by rfl) ?_;dsimp only));refine yD rfl (N := 5) rfl (cs := #[.int .i64 CP,.int .i64 CQ,.int .i64 Df,.int .i64 DU]) (t := 60) (by go_simp) ?_;intro ah hg w34 yI hb;have ae := yf.mk (yI);have ay := bG (w := w) hg;have av := bG (w := w) hg;have af := Cq aa hg;have ag := Aq aa hg;replace aa := bB aa hb;replace HB := bS HB hb;clear hb yI hg;have U1 := af.out;have Uc := ag.out;have NC := AO aa;have NH := bf aa;have Kv := AO ae;have KD := bf ae) | ((with_reducible refine yz (f := 47) rfl ?_);refine gL (some 14) Tryz.func47 #[.agg #[.int .i64 yj,.slice yK yg.length yE,.int .i64 ym,.int .i64 yn],.int .i64 CP,.int .i64 CQ] ?_;(with_reducible refine (BD.calls yj _ _ yg ym yn CP CQ false _ ?yB ?yC A4.out).mono ?_);(case yB => exact CU zk);(case yC => exact zq.out);rintro e w38 ⟨rfl,hb⟩;refine ⟨_,rfl,?_⟩;replace aa := bB aa hb;replace ae := bB ae hb;replace HB := bS HB hb;clear hb))
  go_ret2
  exact ⟨_,by rfl,by exact Kd.Dc _ _ _ _ _,bO HB⟩
 subst c5;rw [if_pos rfl] at H;obtain ⟨JB,A6,H⟩ := bE H
 try dsimp only at H
 have HC7 := yf.mk H;clear H
 go_enter Tryz.func21,Tryz.ntmps21
 go_upto_region 4 with (first | ((with_reducible refine yG (N := 3) rfl ?_);(try (refine AX (by rfl) ?_;dsimp only));refine yD rfl (N := 3) rfl (cs := #[.int .i64 yj,.slice yK yg.length yE,.int .i64 ym,.int .i64 yn]) (t := 29) (by go_simp) ?_;intro ak hg w8 yI hb;have aa := yf.mk (yI);have ax := bG (w := w) hg;have au := bG (w := w) hg;replace HB := bS HB hb;clear hb yI hg) | ((with_reducible refine yG (N := 5) rfl ?_);(try (refine AX (by rfl) ?_;dsimp only));refine yD rfl (N := 5) rfl (cs := #[.int .i64 CP,.int .i64 CQ,.int .i64 Df,.int .i64 DU]) (t := 60) (by go_simp) ?_;intro ah hg w9 yI hb;have ae := yf.mk (yI);have ay := bG (w := w) hg;have av := bG (w := w) hg;have af := Cq aa hg;have ag := Aq aa hg;replace aa := bB aa hb;replace HB := bS HB hb;clear hb yI hg;have WX := af.out;have Xc := ag.out;have Kt := AO aa;have KA := bf aa;have LP := AO ae;have LV := bf ae) | ((with_reducible refine yz (f := 47) rfl ?_);refine gL (some 14) Tryz.func47 #[.agg #[.int .i64 yj,.slice yK yg.length yE,.int .i64 ym,.int .i64 yn],.int .i64 CP,.int .i64 CQ] ?_;(with_reducible refine (BD.calls yj _ _ yg ym yn CP CQ true _ ?yB ?yC A4.out).mono ?_);(case yB => exact CU zk);(case yC => exact zq.out);rintro e w13 ⟨rfl,hb⟩;refine ⟨_,rfl,?_⟩;replace aa := bB aa hb;replace ae := bB ae hb;replace HB := bS HB hb;clear hb;have I6 := AO ae;have I7 := bf ae) | ((with_reducible refine yz (f := 48) rfl ?_);refine gL (some 18) Tryz.func48 #[.slice A1 l1.length c1,.agg #[.int .i64 CP,.int .i64 CQ,.int .i64 Df,.int .i64 DU]] ?_;(with_reducible refine (zi.calls k _ _ l1 CP CQ Df DU JB _ ?yB ?yC A6.out).mono ?_);(case yB => exact CU HR1);(case yC => exact Gt.out);rintro e w15 ⟨v567,rfl,ho0,hb⟩;refine ⟨_,rfl,?_⟩;have aj := yf.mk (Kd.AC (Kd.MX ho0 (g := ah) (o := .cells #[.int .i64 CP,.int .i64 CQ,.int .i64 Df,.int .i64 DU] 60 (0,0)) (kk ae)) (yF (bO HB)));replace aa := bB aa hb;replace ae := bB ae hb;replace HB := bS HB hb;clear hb;clear ho0))
 (try simp only [pz])
 go_cut [29] (fun v29 wc => ∃ (kq : Nat) (ai : Bool),v29 = .bool ai ∧ yf (Az.j0 kq JB ai yj yg ym yn = some (r1,r2)) ∧ yf (kq ≤ k) ∧ yf (Kd.R DN 60 wc w.heap.size (fun k_ => k_ ≠ ah) v567 JB) ∧ yf (wc.heap[ak]? = some (.cells #[.int .i64 yj,(.slice yK yg.length yE),.int .i64 ym,.int .i64 yn] 29 (0,0))) ∧ yf (wc.heap[ah]? = some (.cells #[.int .i64 CP,.int .i64 CQ,.int .i64 Df,.int .i64 DU] 60 (0,0))) ∧ yf (Below w.heap.size w wc))
 case first =>
  have H := HC7.out;clear HC7
  by_cases c16 : Df = (-1)
  ·
   rw [if_pos c16] at H;have FC := beq_iff_eq.mpr c16
   have Ty : (Df != (-1)) = false := bne_eq_false_iff_eq.mpr c16
   clear c16
   (skip)
   have H' := yf.mk H;clear H;have X3 := ag.out;have Xg := af.out;have TI := AO ae;have TP := bf ae;obtain ⟨ML,Ko,Pz⟩ := Kd.zB aj.out;subst Pz
   go_wp2
   go_meet
   case rel => exact ⟨_,(((JB.length : Int) == (l1.length : Int))),(by rfl),H',⟨by omega⟩,⟨by (with_reducible repeat (apply Kd.zg));exact Kd.zf aj.out (fun _ hk => hk.2)⟩,⟨kk aa⟩,⟨kk ae⟩,⟨bO HB⟩⟩
  rw [if_neg c16] at H;have FC := beq_eq_false_iff_ne.mpr c16;have Ty := bne_iff_ne.mpr c16
  (skip)
  have H' := yf.mk H;clear H;have QK := ag.out;have QO := af.out;have JH := AO ae;have JJ := bf ae
  go_wp2
  go_meet
  case rel => exact ⟨_,(false),(by rfl),H',⟨by omega⟩,⟨by (with_reducible repeat (apply Kd.zg));exact Kd.zf aj.out (fun _ hk => hk.2)⟩,⟨kk aa⟩,⟨kk ae⟩,⟨bO HB⟩⟩
 case rest =>
 clear HC7 Kt LP I6 KA LV I7;obtain ⟨kq,ai,rfl,HA,VB,Ci,aa,ae,HB⟩ := hcut
 cases kq with
 | zero => exact absurd HA.out (by simp [Az.j0])
 | succ kj6 =>
  have H := HA.out;clear HA;simp only [Az.j0] at H
  by_cases I4 : ai = true
  ·
   subst I4;rw [if_pos rfl] at H;simp only [Option.some.injEq,Prod.mk.injEq] at H;obtain ⟨rfl,rfl⟩ := H
   go_wp2
   go_ret2
   exact ⟨_,by rfl,by exact Kd.Dc _ _ _ _ _,bO HB⟩
  ·
   replace I4 := Bool.eq_false_iff.mpr I4;subst I4
   rw [if_neg (show ¬ (false = true) by decide)] at H
   obtain ⟨a2P,A23,H⟩ := bE H
   try dsimp only at H
   by_cases c24 : a2P = true
   ·
    subst c24;rw [if_pos rfl] at H;simp only [Option.some.injEq,Prod.mk.injEq] at H;obtain ⟨rfl,rfl⟩ := H;have X4 := af.out;have Xh := ag.out;have a3H := AO aa;have a3V := bf aa;obtain ⟨Mf,Mo,a1Q⟩ := Kd.zB Ci.out;subst a1Q
    go_wp2_with (((with_reducible refine yz (f := 49) rfl ?_);refine gL (some 32) Tryz.func49 #[.agg #[.int .i64 yj,.slice yK yg.length yE,.int .i64 ym,.int .i64 yn],.slice Mf JB.length Mo] ?_;(with_reducible refine (yl.calls kj6 yj _ _ yg ym yn _ _ JB true _ ?yB ?yC ?zI ?zJ A23.out).mono ?_);(case yB => exact CU zk);(case yC => exact zq.out);(case zI => exact Jq Ci);(case zJ => exact (Kd.zb Ci.out).2.1);rintro e w28 ⟨rfl,hb⟩;refine ⟨_,rfl,?_⟩;replace Ci := CR Ci hb;replace aa := bB aa hb;replace ae := bB ae hb;replace HB := bS HB hb;clear hb))
    go_ret2
    exact ⟨_,by rfl,by (with_reducible repeat (apply Kd.zg));exact Kd.zf Ci.out (fun _ hk => trivial),bO HB⟩
   ·
    replace c24 := Bool.eq_false_iff.mpr c24;subst c24
    rw [if_neg (show ¬ (false = true) by decide)] at H
    simp only [Option.some.injEq,Prod.mk.injEq] at H;obtain ⟨rfl,rfl⟩ := H;have TZ := af.out;have Ua := ag.out;have a05 := AO aa;have a0i := bf aa;obtain ⟨Yr,YT,Wy⟩ := Kd.zB Ci.out;subst Wy
    go_wp2_with (((with_reducible refine yz (f := 49) rfl ?_);refine gL (some 32) Tryz.func49 #[.agg #[.int .i64 yj,.slice yK yg.length yE,.int .i64 ym,.int .i64 yn],.slice Yr JB.length YT] ?_;(with_reducible refine (yl.calls kj6 yj _ _ yg ym yn _ _ JB false _ ?yB ?yC ?zI ?zJ A23.out).mono ?_);(case yB => exact CU zk);(case yC => exact zq.out);(case zI => exact Jq Ci);(case zJ => exact (Kd.zb Ci.out).2.1);rintro e w32 ⟨rfl,hb⟩;refine ⟨_,rfl,?_⟩;replace Ci := CR Ci hb;replace aa := bB aa hb;replace ae := bB ae hb;replace HB := bS HB hb;clear hb))
    go_ret2
    exact ⟨_,by rfl,by exact Kd.Dc _ _ _ _ _,bO HB⟩
end Go.Proofs.YtjonnfmoocijlaaGreat.P
