/- Texts of a claim, packed. -/
import Derived.Test.YtjonnfmoocijlaaGreatE36
import Derived.Test.YtjonnfmoocijlaaGreatE38
set_option linter.all false
namespace Go.Proofs.YtjonnfmoocijlaaGreat.P
open Go.RowKit Go.Proofs.YtjonnfmoocijlaaGreatKW.PrintWords Go.Proofs.YtjonnfmoocijlaaGreatKW.PrintLast Go.Proofs.YtjonnfmoocijlaaGreatKW.PrintMore
attribute [local go_sem] zN zP Af Ag zz zA zO zQ
mutual
def zK.j1 : Nat → List (AP) → Int → List (List Int) → Int → Int → Int → Int → Int → Int → Option ((List (AP)) × Int)
 | 0,_,_,_,_,_,_,_,_,_ => none
 | k + 1,EU,ae,af,ag,aa,ah,aj,ai,ak => (Ap.f k ae af ag aa).bind fun GU => ((Ap.f k ae af ag aa).bind fun GV => ((CS.f k ae af ag aa EU).bind fun a2L => (if a2L = true then ((BO.f k ae af ag aa EU (wrap64 (GU - aa)) GV ah).bind fun a2M => (if a2M = true then (some (EU,0)) else (some (([] : List (AP)),1)))) else (some (([] : List (AP)),1)))))
def zK.j0 : Nat → List (AP) → Int → Bool → Bool → Int → List (List Int) → Int → Int → Int → Int → Int → Int → Option ((List (AP)) × Int)
 | 0,_,_,_,_,_,_,_,_,_,_,_,_ => none
 | k + 1,EU,DX,F5,x47,ae,af,ag,aa,ah,aj,ai,ak => if x47 = true then (some (([] : List (AP)),9)) else (if ai = (-1) then ((Dk.f EU DX (wrap64 (DX + 1))).bind fun Zp => (zK.j1 k Zp ae af ag aa ah aj ai ak)) else (if F5 = true then (if 0 ≤ DX then (if DX < (EU.length : Int) then (zK.j1 k (EU.set (DX : Int).toNat (⟨ah,aj,(⟨ai,ak⟩ : Ih)⟩ : AP)) ae af ag aa ah aj ai ak) else (none)) else (none)) else ((CL.f EU DX (([(⟨ah,aj,(⟨ai,ak⟩ : Ih)⟩ : AP)] : List (AP)))).bind fun Vi => (zK.j1 k Vi ae af ag aa ah aj ai ak))))
end
def zK.f (k : Nat) (yj : Int) (yg : List (List Int)) (ym : Int) (yn : Int) (l1 : List (AP)) (CP : Int) (CQ : Int) (Df : Int) (DU : Int) : Option ((List (AP)) × Int) := (CS.f k yj yg ym yn l1).bind fun XU => (if XU = true then ((Ct.f k yj yg ym yn CP CQ).bind fun Qb => (if Qb.2.2 = 0 then ((D5.f l1).bind fun EJ => ((yt.f k EJ CP CQ).bind fun IX => (if Df = (-1) then (zK.j0 k EJ IX.1 IX.2 (!IX.2) yj yg ym yn CP CQ Df DU) else (zK.j0 k EJ IX.1 IX.2 false yj yg ym yn CP CQ Df DU)))) else (some (([] : List (AP)),Qb.2.2)))) else (some (([] : List (AP)),1)))
def zK.T15 : Bool × List (List Nat × List Nat) := (true,[([],[]),([],[]),([],[]),([2],[2]),([],[]),([4],[4]),([3,5],[3,5]),([],[]),([7,3],[7]),([0,1,6,8],[0,1,6,8]),([],[]),([10,9,8,0,1,2,3,4,5,6,7,8,9,10],[9,10])])
def zK.B15 : List Nat := [0,0,0,4,0,16,60,0,140,511,0,2047]
theorem zK.Ya : Dv .any (opsOf Tryz.f18 15) = zK.T15 := by kernel_rfl
theorem zK.RV : BH zK.T15.2 zK.B15 = true := by kernel_rfl
set_option maxHeartbeats 8000000 in
set_option maxRecDepth 100000 in
theorem zK.calls (k : Nat) (yj : Int) (yK : Option Addr) (yE : Nat) (yg : List (List Int)) (ym : Int) (yn : Int) (A1 : Option Addr) (c1 : Nat) (l1 : List (AP)) (CP : Int) (CQ : Int) (Df : Int) (DU : Int) (r1 : List (AP)) (r2 : Int) (w : World) (zS : Kd.C (Kd.slice 3 (Kd.int .i64)) w yK yg.length yg) (zT : yg.length ≤ yE) (hr1 : Kd.C DN w A1 l1.length l1) (hc1 : l1.length ≤ c1) (h : zK.f k yj yg ym yn l1 CP CQ Df DU = some (r1,r2)) :
  Calls Tryz.prog 18 #[.agg #[.int .i64 yj,.slice yK yg.length yE,.int .i64 ym,.int .i64 yn],.slice A1 l1.length c1,.agg #[.int .i64 CP,.int .i64 CQ,.int .i64 Df,.int .i64 DU]] w fun e w' => ∃ G7 : Value,e = .returned (.tuple #[G7,.int .i64 r2]) ∧ Kd.R DN 60 w' w.heap.size (fun _ => True) G7 r1 ∧ Below w.heap.size w w' := by
 have ET := Tryz.underlying29;have Ob := Tryz.underlying60;have KE := Tryz.underlying51;have SL := Tryz.underlying45;have Mq := Tryz.underlying65;have zk := yf.mk zS;have zq := yf.mk zT;clear zS zT;have HR1 := yf.mk hr1;have Gt := yf.mk hc1;clear hr1 hc1;have HB := yf.mk (Below.refl w.heap.size w)
 have H : ((CS.f k yj yg ym yn l1).bind fun XU => (if XU = true then ((Ct.f k yj yg ym yn CP CQ).bind fun Qb => (if Qb.2.2 = 0 then ((D5.f l1).bind fun EJ => ((yt.f k EJ CP CQ).bind fun IX => (if Df = (-1) then (zK.j0 k EJ IX.1 IX.2 (!IX.2) yj yg ym yn CP CQ Df DU) else (zK.j0 k EJ IX.1 IX.2 false yj yg ym yn CP CQ Df DU)))) else (some (([] : List (AP)),Qb.2.2)))) else (some (([] : List (AP)),1)))) = some (r1,r2) := h
 clear h;obtain ⟨XU,A4,H⟩ := bE H
 try dsimp only at H
 by_cases c5 : XU = true
 rotate_left
 ·
  replace c5 := Bool.eq_false_iff.mpr c5;subst c5
  rw [if_neg (show ¬ (false = true) by decide)] at H
  simp only [Option.some.injEq,Prod.mk.injEq] at H;obtain ⟨rfl,rfl⟩ := H
  go_enter Tryz.func18,Tryz.ntmps18
  go_wp2_with (first | ((with_reducible refine yG (N := 3) rfl ?_);refine yD rfl (N := 3) rfl (cs := #[.int .i64 yj,.slice yK yg.length yE,.int .i64 ym,.int .i64 yn]) (t := 29) (by go_simp) ?_;intro aj hg w143 yI hb;have aa := yf.mk (yI);have dD := bG (w := w) hg;have dB := bG (w := w) hg;replace HB := bS HB hb;clear hb yI hg) | ((with_reducible refine yG (N := 5) rfl ?_);refine yD rfl (N := 5) rfl (cs := #[.int .i64 CP,.int .i64 CQ,.int .i64 Df,.int .i64 DU]) (t := 60) (by go_simp) ?_;intro ak hg w144 yI hb;have ae := yf.mk (yI);have dE := bG (w := w) hg;have dC := bG (w := w) hg;have aU := Cq aa hg;have aV := Aq aa hg;replace aa := bB aa hb;replace HB := bS HB hb;clear hb yI hg;have a2q := aU.out;have a2z := aV.out;have fE := AO aa;have gW := bf aa) | ((with_reducible refine yz (f := 38) rfl ?_);refine gL (some 16) Tryz.func38 #[.agg #[.int .i64 yj,.slice yK yg.length yE,.int .i64 ym,.int .i64 yn],.slice A1 l1.length c1] ?_;(with_reducible refine (CS.calls k yj _ _ yg ym yn _ _ l1 false _ ?yB ?yC ?zI ?zJ A4.out).mono ?_);(case yB => exact CU zk);(case yC => exact zq.out);(case zI => exact CU HR1);(case zJ => exact Gt.out);rintro e w147 ⟨rfl,hb⟩;refine ⟨_,rfl,?_⟩;replace aa := bB aa hb;replace ae := bB ae hb;replace HB := bS HB hb;clear hb))
  go_ret2
  exact ⟨_,by rfl,by exact Kd.Dc _ _ _ _ _,bO HB⟩
 subst c5;rw [if_pos rfl] at H;obtain ⟨⟨aN,aQ,cK⟩,A6,H⟩ := bE H
 try dsimp only at H
 by_cases c7 : cK = 0
 rotate_left
 ·
  rw [if_neg c7] at H;have GL := beq_eq_false_iff_ne.mpr c7;have O7 := bne_iff_ne.mpr c7;simp only [Option.some.injEq,Prod.mk.injEq] at H;obtain ⟨rfl,rfl⟩ := H
  go_enter Tryz.func18,Tryz.ntmps18
  go_wp2_with (first | ((with_reducible refine yG (N := 3) rfl ?_);refine yD rfl (N := 3) rfl (cs := #[.int .i64 yj,.slice yK yg.length yE,.int .i64 ym,.int .i64 yn]) (t := 29) (by go_simp) ?_;intro aj hg w131 yI hb;have aa := yf.mk (yI);have dD := bG (w := w) hg;have dB := bG (w := w) hg;replace HB := bS HB hb;clear hb yI hg) | ((with_reducible refine yG (N := 5) rfl ?_);refine yD rfl (N := 5) rfl (cs := #[.int .i64 CP,.int .i64 CQ,.int .i64 Df,.int .i64 DU]) (t := 60) (by go_simp) ?_;intro ak hg w132 yI hb;have ae := yf.mk (yI);have dE := bG (w := w) hg;have dC := bG (w := w) hg;have aU := Cq aa hg;have aV := Aq aa hg;replace aa := bB aa hb;replace HB := bS HB hb;clear hb yI hg;have jO := aU.out;have jV := aV.out;have fB := AO aa;have gT := bf aa) | ((with_reducible refine yz (f := 38) rfl ?_);refine gL (some 16) Tryz.func38 #[.agg #[.int .i64 yj,.slice yK yg.length yE,.int .i64 ym,.int .i64 yn],.slice A1 l1.length c1] ?_;(with_reducible refine (CS.calls k yj _ _ yg ym yn _ _ l1 true _ ?yB ?yC ?zI ?zJ A4.out).mono ?_);(case yB => exact CU zk);(case yC => exact zq.out);(case zI => exact CU HR1);(case zJ => exact Gt.out);rintro e w135 ⟨rfl,hb⟩;refine ⟨_,rfl,?_⟩;replace aa := bB aa hb;replace ae := bB ae hb;replace HB := bS HB hb;clear hb;have fC := AO aa;have gU := bf aa;have fD := AO ae;have gV := bf ae) | ((with_reducible refine yz (f := 33) rfl ?_);refine gL (some 24) Tryz.func33 #[.agg #[.int .i64 yj,.slice yK yg.length yE,.int .i64 ym,.int .i64 yn],.int .i64 CP,.int .i64 CQ] ?_;(with_reducible refine (Ct.calls k yj _ _ yg ym yn CP CQ aN aQ cK _ ?yB ?yC A6.out).mono ?_);(case yB => exact CU zk);(case yC => exact zq.out);rintro e w138 ⟨rfl,hb⟩;refine ⟨_,rfl,?_⟩;replace aa := bB aa hb;replace ae := bB ae hb;replace HB := bS HB hb;clear hb) | ((with_reducible refine yG (N := 8) rfl ?_);refine yD rfl (N := 8) rfl (cs := #[.int .i64 0,.int .i64 0]) (t := 51) (by go_simp) ?_;intro aD hg w139 yI hb;have ag := yf.mk (yI);have dQ := bG (w := w) hg;have dP := bG (w := w) hg;have bM := Cq aa hg;have bN := Aq aa hg;have bn := Cq ae hg;have bq := Aq ae hg;replace aa := bB aa hb;replace ae := bB ae hb;replace HB := bS HB hb;clear hb yI hg;have a2o := bN.out;have a2x := bM.out;have a2p := bq.out;have a2y := bn.out;have a2e := bc2 ag;have a2g := bf ag))
  go_ret2
  exact ⟨_,by rfl,by exact Kd.Dc _ _ _ _ _,bO HB⟩
 rw [if_pos c7] at H;have GL := beq_iff_eq.mpr c7
 have O7 : (cK != 0) = false := bne_eq_false_iff_eq.mpr c7
 clear c7;obtain ⟨EJ,A8,H⟩ := bE H
 try dsimp only at H
 obtain ⟨⟨aA,cO⟩,A9,H⟩ := bE H
 try dsimp only at H
 have RG := yf.mk H;clear H
 go_enter Tryz.func18,Tryz.ntmps18
 go_upto_block 0 with (first | ((with_reducible refine yG (N := 3) rfl ?_);refine yD rfl (N := 3) rfl (cs := #[.int .i64 yj,.slice yK yg.length yE,.int .i64 ym,.int .i64 yn]) (t := 29) (by go_simp) ?_;intro aj hg w11 yI hb;have aa := yf.mk (yI);have dD := bG (w := w) hg;have dB := bG (w := w) hg;replace HB := bS HB hb;clear hb yI hg) | ((with_reducible refine yG (N := 5) rfl ?_);refine yD rfl (N := 5) rfl (cs := #[.int .i64 CP,.int .i64 CQ,.int .i64 Df,.int .i64 DU]) (t := 60) (by go_simp) ?_;intro ak hg w12 yI hb;have ae := yf.mk (yI);have dE := bG (w := w) hg;have dC := bG (w := w) hg;have aU := Cq aa hg;have aV := Aq aa hg;replace aa := bB aa hb;replace HB := bS HB hb;clear hb yI hg;have WZ := aU.out;have Xe := aV.out;have I6 := AO aa;have I7 := bf aa) | ((with_reducible refine yz (f := 38) rfl ?_);refine gL (some 16) Tryz.func38 #[.agg #[.int .i64 yj,.slice yK yg.length yE,.int .i64 ym,.int .i64 yn],.slice A1 l1.length c1] ?_;(with_reducible refine (CS.calls k yj _ _ yg ym yn _ _ l1 true _ ?yB ?yC ?zI ?zJ A4.out).mono ?_);(case yB => exact CU zk);(case yC => exact zq.out);(case zI => exact CU HR1);(case zJ => exact Gt.out);rintro e w15 ⟨rfl,hb⟩;refine ⟨_,rfl,?_⟩;replace aa := bB aa hb;replace ae := bB ae hb;replace HB := bS HB hb;clear hb;have IA := AO aa;have IE := bf aa;have IB := AO ae;have IG := bf ae) | ((with_reducible refine yz (f := 33) rfl ?_);refine gL (some 24) Tryz.func33 #[.agg #[.int .i64 yj,.slice yK yg.length yE,.int .i64 ym,.int .i64 yn],.int .i64 CP,.int .i64 CQ] ?_;(with_reducible refine (Ct.calls k yj _ _ yg ym yn CP CQ aN aQ cK _ ?yB ?yC A6.out).mono ?_);(case yB => exact CU zk);(case yC => exact zq.out);rintro e w18 ⟨rfl,hb⟩;refine ⟨_,rfl,?_⟩;replace aa := bB aa hb;replace ae := bB ae hb;replace HB := bS HB hb;clear hb) | ((with_reducible refine yG (N := 8) rfl ?_);refine yD rfl (N := 8) rfl (cs := #[.int .i64 0,.int .i64 0]) (t := 51) (by go_simp) ?_;intro aD hg w19 yI hb;have ag := yf.mk (yI);have dQ := bG (w := w) hg;have dP := bG (w := w) hg;have bM := Cq aa hg;have bN := Aq aa hg;have bn := Cq ae hg;have bq := Aq ae hg;replace aa := bB aa hb;replace ae := bB ae hb;replace HB := bS HB hb;clear hb yI hg;have QK := bN.out;have QO := bM.out;have jP := bq.out;have jW := bn.out;have LQ := bc2 ag;have LW := bf ag) | ((with_reducible refine yz (f := 39) rfl ?_);refine gL (some 31) Tryz.func39 #[.slice A1 l1.length c1] ?_;(with_reducible refine (D5.calls _ _ l1 EJ _ ?yB ?yC A8.out).mono ?_);(case yB => exact Kd.CE HR1.out (bO HB));(case yC => exact Gt.out);rintro e w23 ⟨v376,rfl,ho0,hb⟩;refine ⟨_,rfl,?_⟩;have bL := yf.mk (Kd.AC (Kd.MX ho0 (g := ak) (o := .cells #[.int .i64 CP,.int .i64 CQ,.int .i64 Df,.int .i64 DU] 60 (0,0)) (CY ae rfl)) (yF (bO HB)));replace aa := yf.mk (yZ (g := aj) (o := .cells #[.int .i64 yj,.slice yK yg.length yE,.int .i64 ym,.int .i64 yn] 29 (0,0)) (CY aa rfl) hb);replace ae := yf.mk (yZ (g := ak) (o := .cells #[.int .i64 CP,.int .i64 CQ,.int .i64 Df,.int .i64 DU] 60 (0,0)) (CY ae rfl) hb);replace ag := yf.mk (yZ (g := aD) (o := .cells #[.int .i64 aN,.int .i64 aQ] 51 (0,0)) (CY ag rfl) hb);replace HB := bS HB hb;clear hb;clear ho0;have Ny := AO ae;have NE := bf ae;obtain ⟨bv,bu,ek⟩ := Kd.zB bL.out;subst ek) | ((with_reducible refine yz (f := 24) rfl ?_);refine gL (some 39) Tryz.func24 #[.slice bv EJ.length bu,.agg #[.int .i64 CP,.int .i64 CQ],(.func (.func 25) #[] #[])] ?_;(with_reducible refine (yt.calls k _ _ EJ CP CQ  aA cO _ ?yB ?yC A9.out).mono ?_);(case yB => exact Jq bL);(case yC => exact (Kd.zb bL.out).2.1);rintro e w26 ⟨rfl,hb⟩;refine ⟨_,rfl,?_⟩;replace bL := CR bL hb;replace aa := bB aa hb;replace ae := bB ae hb;replace ag := bB ag hb;replace HB := bS HB hb;clear hb))
 (try simp only [pz])
 go_cut [10] (fun v10 wc => ∃ (kq : Nat) (aC : List (AP)) (aT : Int) (aW : Int) (aX : Int) (aY : Int),yf (zK.j1 kq aC yj yg ym yn aT aW aX aY = some (r1,r2)) ∧ yf (kq ≤ k) ∧ yf (Kd.R DN 60 wc w.heap.size (fun k_ => k_ ≠ ak) v10 aC) ∧ yf (wc.heap[aj]? = some (.cells #[.int .i64 yj,(.slice yK yg.length yE),.int .i64 ym,.int .i64 yn] 29 (0,0))) ∧ yf (wc.heap[ak]? = some (.cells #[.int .i64 aT,.int .i64 aW,.int .i64 aX,.int .i64 aY] 60 (0,0))) ∧ yf (wc.heap[aD]? = some (.cells #[.int .i64 aN,.int .i64 aQ] 51 (0,0))) ∧ yf (Below w.heap.size w wc))
 case first =>
  have H := RG.out;clear RG;have RI := yf.mk H;clear H
  go_upto_region 9 with (fail)
  go_cut [47] (fun v47 wc => ∃ (kq : Nat) (cZ : Bool),v47 = .bool cZ ∧ yf (zK.j0 kq EJ aA cO cZ yj yg ym yn CP CQ Df DU = some (r1,r2)) ∧ yf (kq ≤ k) ∧ yf (Kd.R DN 60 wc w.heap.size (fun k_ => k_ ≠ ak) (.slice bv EJ.length bu) EJ) ∧ yf (wc.heap[aj]? = some (.cells #[.int .i64 yj,(.slice yK yg.length yE),.int .i64 ym,.int .i64 yn] 29 (0,0))) ∧ yf (wc.heap[ak]? = some (.cells #[.int .i64 CP,.int .i64 CQ,.int .i64 Df,.int .i64 DU] 60 (0,0))) ∧ yf (wc.heap[aD]? = some (.cells #[.int .i64 aN,.int .i64 aQ] 51 (0,0))) ∧ yf (Below w.heap.size w wc))
  case first =>
   have H := RI.out;clear RI
   by_cases c28 : Df = (-1)
   ·
    rw [if_pos c28] at H;have Ng := beq_iff_eq.mpr c28
    have Ov : (Df != (-1)) = false := bne_eq_false_iff_eq.mpr c28
    clear c28
    (skip)
    have H' := yf.mk H;clear H;have TZ := aV.out;have Ua := aU.out;have OI := bn.out;have OJ := bq.out;have JI := AO ae;have JK := bf ae
    go_wp2
    go_meet
    case rel => exact ⟨_,(!cO),(by rfl),H',⟨by omega⟩,⟨by (with_reducible repeat (apply Kd.zg));exact Kd.zf bL.out (fun _ hk => hk.2)⟩,⟨kk aa⟩,⟨kk ae⟩,⟨kk ag⟩,⟨bO HB⟩⟩
   rw [if_neg c28] at H;have Ng := beq_eq_false_iff_ne.mpr c28;have Ov := bne_iff_ne.mpr c28
   (skip)
   have H' := yf.mk H;clear H;have QL := aV.out;have QP := aU.out;have X6 := bn.out;have Xj := bq.out;have NA := AO ae;have NG := bf ae
   go_wp2
   go_meet
   case rel => exact ⟨_,(false),(by rfl),H',⟨by omega⟩,⟨by (with_reducible repeat (apply Kd.zg));exact Kd.zf bL.out (fun _ hk => hk.2)⟩,⟨kk aa⟩,⟨kk ae⟩,⟨kk ag⟩,⟨bO HB⟩⟩
  case rest =>
  clear RI GL O7 I6 IA IB LQ Ny I7 IE IG LW NE;obtain ⟨kq,cZ,rfl,HA,MR,ze,aa,ae,ag,HB⟩ := hcut
  cases kq with
  | zero => exact absurd HA.out (by simp [zK.j0])
  | succ Zh =>
   have H := HA.out;clear HA;simp only [zK.j0] at H
   by_cases Mg : cZ = true
   ·
    subst Mg;rw [if_pos rfl] at H;simp only [Option.some.injEq,Prod.mk.injEq] at H;obtain ⟨rfl,rfl⟩ := H
    go_wp2
    go_ret2
    exact ⟨_,by rfl,by exact Kd.Dc _ _ _ _ _,bO HB⟩
   ·
    replace Mg := Bool.eq_false_iff.mpr Mg;subst Mg
    rw [if_neg (show ¬ (false = true) by decide)] at H
    by_cases TA : Df = (-1)
    ·
     rw [if_pos TA] at H;have VU := beq_iff_eq.mpr TA
     have dW : (Df != (-1)) = false := bne_eq_false_iff_eq.mpr TA
     clear TA;obtain ⟨Zp,A37,H⟩ := bE H
     try dsimp only at H
     have H' := yf.mk H;clear H;have a0v := aV.out;have a0M := aU.out;have U3 := bn.out;have Ue := bq.out;have a07 := AO ae;have a0k := bf ae
     go_wp2_with (((with_reducible refine yz (f := 40) rfl ?_);refine gL (some 65) Tryz.func40 #[.slice bv EJ.length bu,.int .i64 aA,.int .i64 (wrap64 (aA + 1))] ?_;(with_reducible refine (Dk.calls (fun k_ => some k_ = (.slice bv EJ.length bu : Value).ownBlock) (.slice bv EJ.length bu) EJ aA (wrap64 (aA + 1)) Zp w _ ?yB ?yC A37.out).mono ?_);(case yB => repeat ((with_reducible exact HB.out)));(case yC => exact Kd.Gm rfl ze.out);rintro e w41 ⟨v381,rfl,ho0,hb,hkp⟩;refine ⟨_,rfl,?_⟩;have BR := yf.mk (EC (kk aa) hkp (fun hs_ => (fun e_ => (Kd.DC ze.out aa.out (by decide)) e_) hs_));have BS := yf.mk (EC (kk ae) hkp (fun hs_ => (fun e_ => (Kd.FH ze.out (fun _ hk => hk)) e_) hs_));have Ce := yf.mk (EC (kk ag) hkp (fun hs_ => (fun e_ => (Kd.DC ze.out ag.out (by decide)) e_) hs_));have CZ := yf.mk (Kd.zf (ok' := fun k_ => k_ ≠ ak) ho0 (fun k_ Cg => Or.elim Cg (fun hs_ => fun e_ => (Kd.FH ze.out (fun _ hk => hk)) (by rw [← e_];exact hs_)) (fun Cm => (Kd.Ac (g := ak) (o := .cells #[.int .i64 CP,.int .i64 CQ,.int .i64 Df,.int .i64 DU] 60 (0,0)) (kk ae) k_ Cm))));have Dx := yf.mk (hb);clear aa;clear ae;clear ag;clear HB;clear ze;have aa := BR;have ae := BS;have ag := Ce;have dR := CZ;have HB := Dx;clear BR BS Ce CZ Dx;clear hb;clear hkp;clear ho0))
     go_meet
     case rel => exact ⟨_,(Zp),(CP),(CQ),(Df),(DU),H',⟨by have := MR.out;omega⟩,⟨kR dR⟩,⟨kk aa⟩,⟨kk ae⟩,⟨kk ag⟩,⟨bO HB⟩⟩
    ·
     rw [if_neg TA] at H;have VU := beq_eq_false_iff_ne.mpr TA;have dW := bne_iff_ne.mpr TA
     by_cases Iz : cO = true
     ·
      subst Iz;rw [if_pos rfl] at H
      by_cases Rq : 0 ≤ aA
      ·
       rw [if_pos Rq] at H;have VY := decide_eq_true Rq;clear Rq
       by_cases LH : aA < (EJ.length : Int)
       ·
        rw [if_pos LH] at H;have TC := decide_eq_true LH;clear LH;obtain ⟨dz,dn⟩ : ∃ y_ : List (AP),y_ = (EJ.set (aA : Int).toNat (⟨CP,CQ,(⟨Df,DU⟩ : Ih)⟩ : AP)) := ⟨_,rfl⟩
        replace H : (zK.j1 Zh dz yj yg ym yn CP CQ Df DU) = some (r1,r2) := by (rw [dn];with_reducible exact H)
        have dU := yf.mk dn;clear dn;have H' := yf.mk H;clear H;have QM := aV.out;have QQ := aU.out;have U5 := bn.out;have Ug := bq.out;have OD := AO ae;have OH := bf ae
        have p45 : 0 ≤ (aA : Int) := of_decide_eq_true ‹_›
        have dx : (aA : Int) < ((EJ.length : Int) : Int) := of_decide_eq_true ‹_›
        obtain ⟨aM,Wm,WA,dH,eD,fo,dF⟩ := Kd.Hm ze.out (by omega)
        (cases WA)
        have cu := yf.mk dH;have eY := yf.mk dF;clear dH eD dF;obtain ⟨eZ,eF,dI,bX,bY⟩ := Kd.RL ze.out z60 (aA : Int) p45 dx;obtain rfl := Li dI
        have mR : wc.cell? ⟨aM,(aA : Int).toNat * 4,none⟩ = some (.int .i64 ((yh EJ aA).f0)) := bX 0 _ rfl
        have mU : wc.cell? ⟨aM,(aA : Int).toNat * 4 + 1,none⟩ = some (.int .i64 ((yh EJ aA).f1)) := bX 1 _ rfl
        have mV : wc.cell? ⟨aM,(aA : Int).toNat * 4 + 2,none⟩ = some (.int .i64 ((yh EJ aA).f2.f0)) := bX 2 _ rfl
        have mW : wc.cell? ⟨aM,(aA : Int).toNat * 4 + 3,none⟩ = some (.int .i64 ((yh EJ aA).f2.f1)) := bX 3 _ rfl
        have fH : wc.frozen? ⟨aM,(aA : Int).toNat * 4,none⟩ = false := bY 0
        have fI : wc.frozen? ⟨aM,(aA : Int).toNat * 4 + 1,none⟩ = false := bY 1
        have fJ : wc.frozen? ⟨aM,(aA : Int).toNat * 4 + 2,none⟩ = false := bY 2
        have fK : wc.frozen? ⟨aM,(aA : Int).toNat * 4 + 3,none⟩ = false := bY 3
        clear eF bX bY dI;replace p45 := eq_true p45;replace dx := eq_true dx;have dG := yf.mk (show Kd.R DN 60 wc w.heap.size (fun k_ => k_ ≠ ak) (.slice (some ⟨aM,0,none⟩) EJ.length bu) EJ from (kR ze));obtain ⟨fe,dK,dJ,bT,bZ⟩ := Kd.RL dG.out z60 (aA : Int) (of_decide_eq_true ‹_›) (by have h_ : (aA : Int) < ((EJ.length : Int) : Int) := of_decide_eq_true ‹_›;exact h_);obtain rfl := Li dJ;have RJ := Kd.ZL dG.out (aA : Int) (of_decide_eq_true ‹_›) (by have h_ : (aA : Int) < ((EJ.length : Int) : Int) := of_decide_eq_true ‹_›;exact h_) (seg := [.int .i64 CP,.int .i64 CQ,.int .i64 Df,.int .i64 DU]) (j := 0) dK bT (show 4 ≤ 4 from by decide) (x' := (⟨CP,CQ,(⟨Df,DU⟩ : Ih)⟩ : AP)) (Io _ _ _ (⟨CP,CQ,(⟨Df,DU⟩ : Ih)⟩ : AP) ) (fun _ hk => hk);have eQ := bT 0 _ rfl
        (try simp only [show (DN).sz = 4 from rfl,Nat.mul_one,Nat.add_zero] at eQ)
        have eG := bZ 0
        (try simp only [show (DN).sz = 4 from rfl,Nat.mul_one,Nat.add_zero] at eG)
        have eT := bT 1 _ rfl
        (try simp only [show (DN).sz = 4 from rfl,Nat.mul_one,Nat.add_zero] at eT)
        have eH := bZ 1
        (try simp only [show (DN).sz = 4 from rfl,Nat.mul_one,Nat.add_zero] at eH)
        have eU := bT 2 _ rfl
        (try simp only [show (DN).sz = 4 from rfl,Nat.mul_one,Nat.add_zero] at eU)
        have eO := bZ 2
        (try simp only [show (DN).sz = 4 from rfl,Nat.mul_one,Nat.add_zero] at eO)
        have eX := bT 3 _ rfl
        (try simp only [show (DN).sz = 4 from rfl,Nat.mul_one,Nat.add_zero] at eX)
        have eP := bZ 3
        (try simp only [show (DN).sz = 4 from rfl,Nat.mul_one,Nat.add_zero] at eP)
        clear dK bT bZ dJ
        go_wp2_with (((with_reducible refine F8 (t := 60) (p := 71) rfl ?_);refine EI (t := 60) (p := 71) (v := ?vo_w50) (w1 := ((((wc.setCell ⟨aM,(aA : Int).toNat * 4,none⟩ (.int .i64 CP)).setCell ⟨aM,(aA : Int).toNat * 4 + 1,none⟩ (.int .i64 CQ)).setCell ⟨aM,(aA : Int).toNat * 4 + 2,none⟩ (.int .i64 Df)).setCell ⟨aM,(aA : Int).toNat * 4 + 3,none⟩ (.int .i64 DU))) ?hg ?ho ?hn ?hr ?_;(case ho => rfl);(case hg => rfl);(case hn => rfl);(case hr => go_simp);intro w50 hw;have hg : wc.grownBy w50 (some aM) := (by rw [hw];exact RJ.2);have OL : Kd.R DN 60 w50 w.heap.size (fun k_ => k_ ≠ ak) (.slice (some ⟨aM,0,none⟩) EJ.length bu) dz := (by rw [hw,dU.out];exact RJ.1);clear RJ;have BR := yf.mk (OL);have BS := yf.mk (zL (g := aj) (o := .cells #[.int .i64 yj,.slice yK yg.length yE,.int .i64 ym,.int .i64 yn] 29 (0,0)) (kk aa) hg (Kd.DC ze.out aa.out (by decide)));have Ce := yf.mk (zL (g := ak) (o := .cells #[.int .i64 CP,.int .i64 CQ,.int .i64 Df,.int .i64 DU] 60 (0,0)) (kk ae) hg (Kd.FH ze.out (fun _ hk => hk)));have CZ := yf.mk (zL (g := aD) (o := .cells #[.int .i64 aN,.int .i64 aQ] 51 (0,0)) (kk ag) hg (Kd.DC ze.out ag.out (by decide)));have Dx := yf.mk ((by rw [hw];exact Dw (Dw (Dw (Dw (HB.out) cu.out) cu.out) cu.out) cu.out : Below w.heap.size w w50));clear ze;clear aa;clear ae;clear ag;clear HB;have ze := BR;have aa := BS;have ae := Ce;have ag := CZ;have HB := Dx;clear BR BS Ce CZ Dx;clear hg hw OL))
        go_meet
        case rel => exact ⟨_,(dz),(CP),(CQ),(Df),(DU),H',⟨by have := MR.out;omega⟩,⟨kR ze⟩,⟨kk aa⟩,⟨kk ae⟩,⟨kk ag⟩,⟨bO HB⟩⟩
       ·
        rw [if_neg LH] at H;exact absurd H (by simp)
      ·
       rw [if_neg Rq] at H;exact absurd H (by simp)
     ·
      replace Iz := Bool.eq_false_iff.mpr Iz;subst Iz
      rw [if_neg (show ¬ (false = true) by decide)] at H
      obtain ⟨d9,dw⟩ : ∃ y_ : List (AP),y_ = (([(⟨CP,CQ,(⟨Df,DU⟩ : Ih)⟩ : AP)] : List (AP))) := ⟨_,rfl⟩
      replace H : ((CL.f EJ aA d9).bind fun Vi => (zK.j1 Zh Vi yj yg ym yn CP CQ Df DU)) = some (r1,r2) := by (rw [dw];with_reducible exact H)
      have dV := yf.mk dw;clear dw;obtain ⟨Vi,dL,H⟩ := bE H
      try dsimp only at H
      have H' := yf.mk H;clear H;have a0y := aV.out;have a0P := aU.out;have a0z := bn.out;have a0Q := bq.out;have a3M := AO ae;have a4a := bf ae
      go_wp2_with (first | ((with_reducible refine yG (N := 45) rfl ?_);refine Kd.JC DN _ 60 ?hg (N := 45) ?hd (xs := ([(⟨CP,CQ,(⟨Df,DU⟩ : Ih)⟩ : AP)] : List (AP))) (inner := [.int .i64 CP,.int .i64 CQ,.int .i64 Df,.int .i64 DU]) (ok := fun _ => True) (okp := fun _ => True) ?hr ?hp (fun _ hk => hk) trivial (Below.refl _ _) (Nat.le_refl _) (by simp) ?_;(case hd => rfl);(case hg => rfl);(case hr => go_simp);(case hp => exact (BQ.c4 (show Kd.M DN _ _ _ (⟨CP,CQ,(⟨Df,DU⟩ : Ih)⟩ : AP) [.int .i64 CP,.int .i64 CQ,.int .i64 Df,.int .i64 DU] from (Io _ _ _ (⟨CP,CQ,(⟨Df,DU⟩ : Ih)⟩ : AP) )) (BQ.none _ _)));intro v385 w55 cz hb JY DL;clear JY DL;(rw [← dV.out] at cz);have bA := yf.mk (Kd.AC (Kd.MX (Kd.CV cz (Kd.EL (kR ze))) (g := ak) (o := .cells #[.int .i64 CP,.int .i64 CQ,.int .i64 Df,.int .i64 DU] 60 (0,0)) (kk ae)) (yF (bO HB)));replace ze := yf.mk (Kd.Bu (kR ze) (Kd.Ba cz) hb);replace aa := bB aa hb;replace ae := bB ae hb;replace ag := bB ag hb;replace HB := bS HB hb;clear hb cz;obtain ⟨a1h,a1M,a1Z⟩ := Kd.zB bA.out;subst a1Z) | ((with_reducible refine yz (f := 41) rfl ?_);refine gL (some 46) Tryz.func41 #[.slice bv EJ.length bu,.int .i64 aA,.slice a1h d9.length a1M] ?_;(with_reducible refine (CL.calls (fun k_ => some k_ = (.slice bv EJ.length bu : Value).ownBlock) (.slice bv EJ.length bu) EJ aA _ _ d9 Vi w _ ?yB ?yC ?zI ?zJ dL.out).mono ?_);(case yB => repeat ((with_reducible exact HB.out)));(case yC => exact Kd.Gm rfl ze.out);(case zI => exact ⟨_,_,bA.out,fun k_ gZ Cg hs_ => (Cg.1.2) hs_⟩);(case zJ => exact (Kd.zb bA.out).2.1);rintro e w58 ⟨v388,rfl,ho0,hb,hkp⟩;refine ⟨_,rfl,?_⟩;have BR := yf.mk (EC (kk aa) hkp (fun hs_ => (fun e_ => (Kd.DC ze.out aa.out (by decide)) e_) hs_));have BS := yf.mk (EC (kk ae) hkp (fun hs_ => (fun e_ => (Kd.FH ze.out (fun _ hk => hk.1)) e_) hs_));have Ce := yf.mk (EC (kk ag) hkp (fun hs_ => (fun e_ => (Kd.DC ze.out ag.out (by decide)) e_) hs_));have CZ := yf.mk (Kd.zf (ok' := fun k_ => k_ ≠ ak ∧ some k_ ≠ (v388 : Value).ownBlock) (Kd.YC (bA.out) hkp (fun k_ Cg hs_ => (Cg.1.2) hs_)) (fun k_ Cg => ⟨Cg.1.2,fun e_ => Or.elim (ho0.1 k_ e_.symm) (fun hs_ => Cg.2.1 hs_) (fun Cm => Nat.not_le.2 Cg.2.2 Cm)⟩));have Dx := yf.mk (Kd.zf (ok' := fun k_ => some k_ ≠ (.slice a1h d9.length a1M : Value).ownBlock ∧ k_ ≠ ak) ho0 (fun k_ Cg => ⟨Or.elim Cg (fun hs_ => fun e_ => (((bA.out).1 k_ e_.symm).1.2) hs_) (fun Cm => (Kd.fresh' (Kd.EL (kR bA)) k_ Cm)),Or.elim Cg (fun hs_ => fun e_ => (Kd.FH ze.out (fun _ hk => hk.1)) (by rw [← e_];exact hs_)) (fun Cm => (Kd.Ac (g := ak) (o := .cells #[.int .i64 CP,.int .i64 CQ,.int .i64 Df,.int .i64 DU] 60 (0,0)) (kk ae) k_ Cm))⟩));have E5 := yf.mk (hb);clear aa;clear ae;clear ag;clear bA;clear HB;clear ze;have aa := BR;have ae := BS;have ag := Ce;have bA := CZ;have dS := Dx;have HB := E5;clear BR BS Ce CZ Dx E5;clear hb;clear hkp;clear ho0))
      go_meet
      case rel => exact ⟨_,(Vi),(CP),(CQ),(Df),(DU),H',⟨by have := MR.out;omega⟩,⟨by (with_reducible repeat (apply Kd.zg));exact Kd.zf dS.out (fun _ hk => hk.2)⟩,⟨kk aa⟩,⟨kk ae⟩,⟨kk ag⟩,⟨bO HB⟩⟩
 case rest =>
 clear RG GL O7 I6 IA IB LQ Ny I7 IE IG LW NE;obtain ⟨kq,aC,aT,aW,aX,aY,HA,Yz,ze,aa,ae,ag,HB⟩ := hcut
 cases kq with
 | zero => exact absurd HA.out (by simp [zK.j1])
 | succ Mr =>
  have H := HA.out;clear HA;simp only [zK.j1] at H;obtain ⟨GU,Ut,H⟩ := bE H
  try dsimp only at H
  obtain ⟨GV,Vo,H⟩ := bE H
  try dsimp only at H
  obtain ⟨a2L,df,H⟩ := bE H
  try dsimp only at H
  by_cases JF : a2L = true
  ·
   subst JF;rw [if_pos rfl] at H;obtain ⟨a2M,dA,H⟩ := bE H
   try dsimp only at H
   by_cases c64 : a2M = true
   ·
    subst c64;rw [if_pos rfl] at H;simp only [Option.some.injEq,Prod.mk.injEq] at H;obtain ⟨rfl,rfl⟩ := H
    try go_wp2
    replace ze := yf.mk (Kd.DI ze.out);replace aa := yf.mk (zl aa.out);replace ae := yf.mk (zl ae.out);replace ag := yf.mk (zl ag.out);replace HB := yf.mk (zt HB.out);obtain ⟨bV,bQ,eu⟩ := Kd.zB ze.out
    (subst eu)
    refine Bt (n := 12) (S := fun w' => w'.cell? ⟨aj,0,none⟩ = some (.int .i64 yj) ∧ w'.cell? ⟨aj,1,none⟩ = some (.slice yK yg.length yE) ∧ w'.cell? ⟨aj,2,none⟩ = some (.int .i64 ym) ∧ w'.cell? ⟨aj,3,none⟩ = some (.int .i64 yn)) (ds := []) (bz 12 0) (by kernel_rfl) rfl rfl (AO aa) (fun hHeld => ?_);refine Ab zK.Ya zK.RV (fun yJ Bv => ?_)
    generalize wc.drew = w65 at ze aa ae ag HB hHeld ⊢;refine pU 1 73 12 2 yJ ?_;refine pU 4 76 12 18 yJ ?_
    refine Co 0 72 12 19 yJ Bv hHeld ?_
    refine Co 2 74 12 23 yJ Bv hHeld ?_
    refine Co 5 77 12 55 yJ Bv hHeld ?_
    refine Co 7 79 12 183 yJ Bv hHeld ?_
    refine Ul (σ := Nat) 1 (bz 12 2047) (fun s_ => [(75,.int .i64 GU),(80,.int .i64 GV),(13,.pointer (some ⟨s_,0,none⟩)),(78,.int .i64 (wrap64 (GU - yn))),(81,.agg #[.int .i64 yj,.slice yK yg.length yE,.int .i64 ym,.int .i64 yn,.slice bV aC.length bQ,.int .i64 (wrap64 (GU - yn)),.int .i64 GV])]) (fun s_ w' => (w'.cell? ⟨aj,0,none⟩ = some (.int .i64 yj) ∧ w'.cell? ⟨aj,1,none⟩ = some (.slice yK yg.length yE) ∧ w'.cell? ⟨aj,2,none⟩ = some (.int .i64 ym) ∧ w'.cell? ⟨aj,3,none⟩ = some (.int .i64 yn)) ∧ (Kd.R DN 60 w' w.heap.size (fun k_ => k_ ≠ ak) (.slice bV aC.length bQ) aC) ∧ (w'.heap[aj]? = some (.cells #[.int .i64 yj,.slice yK yg.length yE,.int .i64 ym,.int .i64 yn] 29 (0,0))) ∧ (w'.heap[ak]? = some (.cells #[.int .i64 aT,.int .i64 aW,.int .i64 aX,.int .i64 aY] 60 (0,0))) ∧ (w'.heap[aD]? = some (.cells #[.int .i64 aN,.int .i64 aQ] 51 (0,0))) ∧ (w'.heap[s_]? = some (.cells #[.int .i64 0,.slice none 0 0,.int .i64 0,.int .i64 0,.slice none 0 0,.int .i64 0,.int .i64 0] 65 (0,0))) ∧ (w.heap.size ≤ s_) ∧ (w.heap.size ≤ s_) ∧ (aj ≠ s_) ∧ (s_ ≠ aj) ∧ (ak ≠ s_) ∧ (s_ ≠ ak) ∧ (aD ≠ s_) ∧ (s_ ≠ aD) ∧ (Below w.heap.size w w')) ?_ ?_
    rotate_left
    ·
     intro hCont
     refine Rl (i := 3) (j := 10) (Ni := some 75) (Nj := some 13) (bz 12 191) (bz 12 1207) rfl rfl rfl rfl (Ji yJ.out (by kernel_rfl)) (by decide) (by decide) (fun K hK => ?_) (fun K hK => ?_)
     ·
      skip
      refine gO Tryz.func42 #[.agg #[.int .i64 yj,.slice yK yg.length yE,.int .i64 ym,.int .i64 yn]] ?_
      with_reducible refine (Ap.calls Mr yj _ _ yg ym yn GU _ ?yB ?yC Ut.out).mono ?_
      (case yB => exact CU zk)
      (case yC => exact zq.out)
      rintro e w66 ⟨rfl,hb⟩
      refine ⟨_,rfl,?_⟩
      replace ze := CR ze hb;replace aa := bB aa hb;replace ae := bB ae hb;replace ag := bB ag hb;replace HB := bS HB hb;clear hb
      refine hK.out _ _ (AO aa) (fun hHeld => ?_)
      clear hK K
      refine AU (a' := ?_) ?_ ?_
      rotate_left
      ·
       show Act.put _ (some 75) _ = _
       simp only [pz]
       rfl
      refine pU 6 78 12 255 yJ ?_
      refine Rl (i := 8) (j := 10) (Ni := some 80) (Nj := some 13) (bz 12 511) (bz 12 1279) rfl rfl rfl rfl (Ji yJ.out (by kernel_rfl)) (by decide) (by decide) (fun K hK => ?_) (fun K hK => ?_)
      ·
       skip
       refine gO Tryz.func42 #[.agg #[.int .i64 yj,.slice yK yg.length yE,.int .i64 ym,.int .i64 yn]] ?_
       with_reducible refine (Ap.calls Mr yj _ _ yg ym yn GV _ ?yB ?yC Vo.out).mono ?_
       (case yB => exact CU zk)
       (case yC => exact zq.out)
       rintro e w67 ⟨rfl,hb⟩
       refine ⟨_,rfl,?_⟩
       replace ze := CR ze hb;replace aa := bB aa hb;replace ae := bB ae hb;replace ag := bB ag hb;replace HB := bS HB hb;clear hb
       refine hK.out _ _ (AO aa) (fun hHeld => ?_)
       clear hK K
       refine AU (a' := ?_) ?_ ?_
       rotate_left
       ·
        show Act.put _ (some 80) _ = _
        simp only [pz]
        rfl
       refine pU 9 81 12 1023 yJ ?_
       refine CB (i := 10) (N := some 13) (bz 12 2047) rfl rfl (Ar yJ.out (by kernel_rfl)) (by decide) (fun K hK => ?_)
       refine Ei ?hg (N := 13) ?hd (cs := #[.int .i64 0,.slice none 0 0,.int .i64 0,.int .i64 0,.slice none 0 0,.int .i64 0,.int .i64 0]) (t := 65) ?hr ?_;(case hd => rfl);(case hg => rfl);(case hr => go_simp)
       intro af hg w69 yI hb
       have BR := CR ze hb;have BS := bB aa hb;have Ce := bB ae hb;have CZ := bB ag hb;have Dx := bS HB hb;have E5 := yf.mk (yI);have G6 := bG (w := w) hg;have GI := bG (w := w) hg;have Jb := Cq aa hg;have Jc := Aq aa hg;have EG := Cq ae hg;have EH := Aq ae hg;have F4 := Cq ag hg;have aG := Aq ag hg;clear ze aa ae ag HB;have ze := BR;have aa := BS;have ae := Ce;have ag := CZ;have HB := Dx;have ai := E5;have aI := G6;have aH := GI;have ah := Jb;have au := Jc;have av := EG;have ay := EH;have ax := F4;have az := aG;clear BR BS Ce CZ Dx E5 G6 GI Jb Jc EG EH F4 aG hb yI hg
       refine hK.out _ _ (AO aa) (fun hHeld => ?_)
       clear hK K
       refine AU (a' := ?_) ?_ ?_
       rotate_left
       ·
        show Act.put _ (some 13) _ = _
        simp only [pz]
        rfl
       exact Gb (hCont (af) _ ⟨hHeld,(kR ze),(kk aa),(kk ae),(kk ag),(kk ai),aI.out,aH.out,ah.out,au.out,av.out,ay.out,ax.out,az.out,(bO HB)⟩)
      ·
       skip
       refine Ei ?hg (N := 13) ?hd (cs := #[.int .i64 0,.slice none 0 0,.int .i64 0,.int .i64 0,.slice none 0 0,.int .i64 0,.int .i64 0]) (t := 65) ?hr ?_;(case hd => rfl);(case hg => rfl);(case hr => go_simp)
       intro af hg w67 yI hb
       have BR := CR ze hb;have BS := bB aa hb;have Ce := bB ae hb;have CZ := bB ag hb;have Dx := bS HB hb;have E5 := yf.mk (yI);have G6 := bG (w := w) hg;have GI := bG (w := w) hg;have Jb := Cq aa hg;have Jc := Aq aa hg;have EG := Cq ae hg;have EH := Aq ae hg;have F4 := Cq ag hg;have aG := Aq ag hg;clear ze aa ae ag HB;have ze := BR;have aa := BS;have ae := Ce;have ag := CZ;have HB := Dx;have ai := E5;have aI := G6;have aH := GI;have ah := Jb;have au := Jc;have av := EG;have ay := EH;have ax := F4;have az := aG;clear BR BS Ce CZ Dx E5 G6 GI Jb Jc EG EH F4 aG hb yI hg
       refine hK.out _ _ (AO aa) (fun hHeld => ?_)
       clear hK K
       refine AU (a' := ?_) ?_ ?_
       rotate_left
       ·
        show Act.put _ (some 13) _ = _
        simp only [pz]
        rfl
       refine CB (i := 8) (N := some 80) (bz 12 1535) rfl rfl (Ar yJ.out (by kernel_rfl)) (by decide) (fun K hK => ?_)
       refine gO Tryz.func42 #[.agg #[.int .i64 yj,.slice yK yg.length yE,.int .i64 ym,.int .i64 yn]] ?_
       with_reducible refine (Ap.calls Mr yj _ _ yg ym yn GV _ ?yB ?yC Vo.out).mono ?_
       (case yB => exact CU zk)
       (case yC => exact zq.out)
       rintro e w68 ⟨rfl,hb⟩
       refine ⟨_,rfl,?_⟩
       replace ze := CR ze hb;replace aa := bB aa hb;replace ae := bB ae hb;replace ag := bB ag hb;replace ai := bB ai hb;replace HB := bS HB hb;clear hb;obtain ⟨dN,dY,di⟩ := Kd.zB ze.out
       ((injection di with aJ aZ aK;have bg := aJ.symm;have bi := aK.symm;clear aJ aZ aK;subst bg;subst bi))
       refine hK.out _ _ (AO aa) (fun hHeld => ?_)
       clear hK K
       refine AU (a' := ?_) ?_ ?_
       rotate_left
       ·
        show Act.put _ (some 80) _ = _
        simp only [pz]
        rfl
       refine pU 9 81 12 2047 yJ ?_
       exact Gb (hCont (af) _ ⟨hHeld,(kR ze),(kk aa),(kk ae),(kk ag),(kk ai),aI.out,aH.out,ah.out,au.out,av.out,ay.out,ax.out,az.out,(bO HB)⟩)
     ·
      skip
      refine Ei ?hg (N := 13) ?hd (cs := #[.int .i64 0,.slice none 0 0,.int .i64 0,.int .i64 0,.slice none 0 0,.int .i64 0,.int .i64 0]) (t := 65) ?hr ?_;(case hd => rfl);(case hg => rfl);(case hr => go_simp)
      intro af hg w66 yI hb
      have BR := CR ze hb;have BS := bB aa hb;have Ce := bB ae hb;have CZ := bB ag hb;have Dx := bS HB hb;have E5 := yf.mk (yI);have G6 := bG (w := w) hg;have GI := bG (w := w) hg;have Jb := Cq aa hg;have Jc := Aq aa hg;have EG := Cq ae hg;have EH := Aq ae hg;have F4 := Cq ag hg;have aG := Aq ag hg;clear ze aa ae ag HB;have ze := BR;have aa := BS;have ae := Ce;have ag := CZ;have HB := Dx;have ai := E5;have aI := G6;have aH := GI;have ah := Jb;have au := Jc;have av := EG;have ay := EH;have ax := F4;have az := aG;clear BR BS Ce CZ Dx E5 G6 GI Jb Jc EG EH F4 aG hb yI hg
      refine hK.out _ _ (AO aa) (fun hHeld => ?_)
      clear hK K
      refine AU (a' := ?_) ?_ ?_
      rotate_left
      ·
       show Act.put _ (some 13) _ = _
       simp only [pz]
       rfl
      refine CB (i := 3) (N := some 75) (bz 12 1215) rfl rfl (Ar yJ.out (by kernel_rfl)) (by decide) (fun K hK => ?_)
      refine gO Tryz.func42 #[.agg #[.int .i64 yj,.slice yK yg.length yE,.int .i64 ym,.int .i64 yn]] ?_
      with_reducible refine (Ap.calls Mr yj _ _ yg ym yn GU _ ?yB ?yC Ut.out).mono ?_
      (case yB => exact CU zk)
      (case yC => exact zq.out)
      rintro e w67 ⟨rfl,hb⟩
      refine ⟨_,rfl,?_⟩
      replace ze := CR ze hb;replace aa := bB aa hb;replace ae := bB ae hb;replace ag := bB ag hb;replace ai := bB ai hb;replace HB := bS HB hb;clear hb
      refine hK.out _ _ (AO aa) (fun hHeld => ?_)
      clear hK K
      refine AU (a' := ?_) ?_ ?_
      rotate_left
      ·
       show Act.put _ (some 75) _ = _
       simp only [pz]
       rfl
      refine pU 6 78 12 1279 yJ ?_
      refine CB (i := 8) (N := some 80) (bz 12 1535) rfl rfl (Ar yJ.out (by kernel_rfl)) (by decide) (fun K hK => ?_)
      refine gO Tryz.func42 #[.agg #[.int .i64 yj,.slice yK yg.length yE,.int .i64 ym,.int .i64 yn]] ?_
      with_reducible refine (Ap.calls Mr yj _ _ yg ym yn GV _ ?yB ?yC Vo.out).mono ?_
      (case yB => exact CU zk)
      (case yC => exact zq.out)
      rintro e w68 ⟨rfl,hb⟩
      refine ⟨_,rfl,?_⟩
      replace ze := CR ze hb;replace aa := bB aa hb;replace ae := bB ae hb;replace ag := bB ag hb;replace ai := bB ai hb;replace HB := bS HB hb;clear hb;obtain ⟨dN,dY,di⟩ := Kd.zB ze.out
      ((injection di with aJ aZ aK;have bg := aJ.symm;have bi := aK.symm;clear aJ aZ aK;subst bg;subst bi))
      refine hK.out _ _ (AO aa) (fun hHeld => ?_)
      clear hK K
      refine AU (a' := ?_) ?_ ?_
      rotate_left
      ·
       show Act.put _ (some 80) _ = _
       simp only [pz]
       rfl
      refine pU 9 81 12 2047 yJ ?_
      exact Gb (hCont (af) _ ⟨hHeld,(kR ze),(kk aa),(kk ae),(kk ag),(kk ai),aI.out,aH.out,ah.out,au.out,av.out,ay.out,ax.out,az.out,(bO HB)⟩)
    rintro af w70 ⟨hS_,WH,UN,UO,WI,WJ,WK,WL,WM,bI,bJ,bC,bD,bF,bH⟩
    have ai : yf (w70.heap[af]? = some (.cells #[.int .i64 0,.slice none 0 0,.int .i64 0,.int .i64 0,.slice none 0 0,.int .i64 0,.int .i64 0] 65 (0,0))) := ⟨WJ⟩
    have aI : yf (w.heap.size ≤ af) := ⟨WK⟩
    have aH : yf (w.heap.size ≤ af) := ⟨WL⟩
    have ah : yf (aj ≠ af) := ⟨WM⟩
    have au : yf (af ≠ aj) := ⟨bI⟩
    have av : yf (ak ≠ af) := ⟨bJ⟩
    have ay : yf (af ≠ ak) := ⟨bC⟩
    have ax : yf (aD ≠ af) := ⟨bD⟩
    have az : yf (af ≠ aD) := ⟨bF⟩
    replace ze : yf (Kd.R DN 60 w70 w.heap.size (fun k_ => k_ ≠ ak) (.slice bV aC.length bQ) aC) := ⟨WH⟩
    replace aa : yf (w70.heap[aj]? = some (.cells #[.int .i64 yj,.slice yK yg.length yE,.int .i64 ym,.int .i64 yn] 29 (0,0))) := ⟨UN⟩
    replace ae : yf (w70.heap[ak]? = some (.cells #[.int .i64 aT,.int .i64 aW,.int .i64 aX,.int .i64 aY] 60 (0,0))) := ⟨UO⟩
    replace ag : yf (w70.heap[aD]? = some (.cells #[.int .i64 aN,.int .i64 aQ] 51 (0,0))) := ⟨WI⟩
    replace HB : yf (Below w.heap.size w w70) := ⟨bH⟩
    clear WH UN UO WI WJ WK WL WM bI bJ bC bD bF bH
    have hHeld : w70.cell? ⟨aj,0,none⟩ = some (.int .i64 yj) ∧ w70.cell? ⟨aj,1,none⟩ = some (.slice yK yg.length yE) ∧ w70.cell? ⟨aj,2,none⟩ = some (.int .i64 ym) ∧ w70.cell? ⟨aj,3,none⟩ = some (.int .i64 yn) := hS_
    refine AU (a' := ?_) ?_ ?_
    rotate_left
    ·
     simp only [Jd,Act.put,List.setIfInBounds_toArray,List.set_cons_zero,List.set_cons_succ]
     rfl
    refine CB (i := 11) (N := none) (bz 12 4095) rfl rfl (Ar yJ.out (by kernel_rfl)) (by decide) (fun K hK => ?_)
    have mD : w70.cell? ⟨af,0,none⟩ = some (.int .i64 0) := (yx ai.out 0).trans rfl
    have gq := zy ai.out 0;have kW := ah.out;have kX := av.out;have kY := ax.out;have iU := au.out;have iV := ay.out;have iW := az.out
    have mE : w70.cell? ⟨af,1,none⟩ = some (.slice none 0 0) := (yx ai.out 1).trans rfl
    have gu := zy ai.out 1;have kZ := ah.out;have l5 := av.out;have l6 := ax.out;have iX := au.out;have iY := ay.out;have iZ := az.out
    have mF : w70.cell? ⟨af,2,none⟩ = some (.int .i64 0) := (yx ai.out 2).trans rfl
    have gy := zy ai.out 2;have l7 := ah.out;have l8 := av.out;have l9 := ax.out;have j4 := au.out;have j5 := ay.out;have j6 := az.out
    have mG : w70.cell? ⟨af,3,none⟩ = some (.int .i64 0) := (yx ai.out 3).trans rfl
    have gz := zy ai.out 3;have lc := ah.out;have lg := av.out;have lh := ax.out;have ja := au.out;have jb := ay.out;have jc := az.out
    have mH : w70.cell? ⟨af,4,none⟩ = some (.slice none 0 0) := (yx ai.out 4).trans rfl
    have gB := zy ai.out 4;have ll := ah.out;have lq := av.out;have lu := ax.out;have jd := au.out;have je := ay.out;have jf := az.out
    have mI : w70.cell? ⟨af,5,none⟩ = some (.int .i64 0) := (yx ai.out 5).trans rfl
    have gD := zy ai.out 5;have lv := ah.out;have lw := av.out;have lC := ax.out;have jg := au.out;have jh := ay.out;have ji := az.out
    have mJ : w70.cell? ⟨af,6,none⟩ = some (.int .i64 0) := (yx ai.out 6).trans rfl
    have gF := zy ai.out 6;have lD := ah.out;have lF := av.out;have lG := ax.out;have jk := au.out;have jl := ay.out;have jm := az.out
    refine Ia (w1 := ?_) (by rfl) rfl ?_ ?_
    rotate_left
    ·
     go_simp
     rfl
    refine hK.out _ _ ⟨((cell_far (p := ⟨af,_,none⟩) ah.out _).trans (((cell_far (p := ⟨af,_,none⟩) ah.out _).trans (((cell_far (p := ⟨af,_,none⟩) ah.out _).trans (((cell_far (p := ⟨af,_,none⟩) ah.out _).trans (((cell_far (p := ⟨af,_,none⟩) ah.out _).trans (((cell_far (p := ⟨af,_,none⟩) ah.out _).trans (((cell_far (p := ⟨af,_,none⟩) ah.out _).trans (hHeld.1)))))))))))))),((cell_far (p := ⟨af,_,none⟩) ah.out _).trans (((cell_far (p := ⟨af,_,none⟩) ah.out _).trans (((cell_far (p := ⟨af,_,none⟩) ah.out _).trans (((cell_far (p := ⟨af,_,none⟩) ah.out _).trans (((cell_far (p := ⟨af,_,none⟩) ah.out _).trans (((cell_far (p := ⟨af,_,none⟩) ah.out _).trans (((cell_far (p := ⟨af,_,none⟩) ah.out _).trans (hHeld.2.1)))))))))))))),((cell_far (p := ⟨af,_,none⟩) ah.out _).trans (((cell_far (p := ⟨af,_,none⟩) ah.out _).trans (((cell_far (p := ⟨af,_,none⟩) ah.out _).trans (((cell_far (p := ⟨af,_,none⟩) ah.out _).trans (((cell_far (p := ⟨af,_,none⟩) ah.out _).trans (((cell_far (p := ⟨af,_,none⟩) ah.out _).trans (((cell_far (p := ⟨af,_,none⟩) ah.out _).trans (hHeld.2.2.1)))))))))))))),((cell_far (p := ⟨af,_,none⟩) ah.out _).trans (((cell_far (p := ⟨af,_,none⟩) ah.out _).trans (((cell_far (p := ⟨af,_,none⟩) ah.out _).trans (((cell_far (p := ⟨af,_,none⟩) ah.out _).trans (((cell_far (p := ⟨af,_,none⟩) ah.out _).trans (((cell_far (p := ⟨af,_,none⟩) ah.out _).trans (((cell_far (p := ⟨af,_,none⟩) ah.out _).trans (hHeld.2.2.2))))))))))))))⟩ (fun hHeld => ?_)
    clear hK K
    refine Cn (AZ yJ.out (by kernel_rfl)) ?_
    have Xb := aU.out;have Xo := aV.out;have a4v := bM.out;have a4P := bN.out;have a0I := ah.out;have a0Z := au.out;have a3S := AO aa;have a4g := bf aa
    try go_wp2_with (first | ((with_reducible refine yz (f := 38) rfl ?_);refine gL (some 84) Tryz.func38 #[.agg #[.int .i64 yj,.slice yK yg.length yE,.int .i64 ym,.int .i64 yn],.slice bV aC.length bQ] ?_;(with_reducible refine (CS.calls Mr yj _ _ yg ym yn _ _ aC true _ ?yB ?yC ?zI ?zJ df.out).mono ?_);(case yB => exact Kd.CE zk.out (bO HB));(case yC => exact zq.out);(case zI => refine (Kd.zb (e := 60) (base := w.heap.size) (ok := fun k_ => k_ ≠ ak) (n := aC.length) (c := bQ) ?_).2.2;exact (by (with_reducible repeat (apply Kd.zg));exact (Kd.zf (GG (g := af) (Kd.Bw ze.out ai.out (by decide)) (fun _ hk => hk.2)) (fun _ h_ => h_.1))));(case zJ => exact (Kd.zb ze.out).2.1);rintro e w82 ⟨rfl,hb⟩;refine ⟨_,rfl,?_⟩;replace ze := yf.mk (Kd.Cj (by (with_reducible repeat (apply Kd.zg));exact (Kd.zf (GG (g := af) (Kd.Bw ze.out ai.out (by decide)) (fun _ hk => hk.2)) (fun _ h_ => h_.1))) hb);replace aa := yf.mk (yZ (g := aj) (o := .cells #[.int .i64 yj,.slice yK yg.length yE,.int .i64 ym,.int .i64 yn] 29 (0,0)) (CY aa rfl) hb);replace ae := yf.mk (yZ (g := ak) (o := .cells #[.int .i64 aT,.int .i64 aW,.int .i64 aX,.int .i64 aY] 60 (0,0)) (CY ae rfl) hb);replace ag := yf.mk (yZ (g := aD) (o := .cells #[.int .i64 aN,.int .i64 aQ] 51 (0,0)) (CY ag rfl) hb);replace ai := yf.mk (yZ (g := af) (o := .cells #[.int .i64 yj,.slice yK yg.length yE,.int .i64 ym,.int .i64 yn,.slice bV aC.length bQ,.int .i64 (wrap64 (GU - yn)),.int .i64 GV] 65 (0,0)) (CY ai rfl) hb);replace HB := bS HB hb;clear hb;have a4w := ay.out;have a4Q := av.out;have a4x := az.out;have a4R := ax.out;have fF := Fy ai;have gX := bf ai;have a4y := bn.out;have a4S := bq.out;have fG := AO ae;have gY := bf ae) | (go_at_call 43;(with_reducible refine (BO.calls Mr yj _ _ yg ym yn _ _ aC (wrap64 (GU - yn)) GV aT true _ ?yB ?yC ?zI ?zJ dA.out).mono ?_);(case yB => exact CU zk);(case yC => exact zq.out);(case zI => exact Jq ze);(case zJ => exact (Kd.zb ze.out).2.1);rintro e w88 ⟨rfl,hb⟩;replace ze := CR ze hb;replace aa := bB aa hb;replace ae := bB ae hb;replace ag := bB ag hb;replace ai := bB ai hb;replace HB := bS HB hb;clear hb))
    go_ret2
    exact ⟨_,by rfl,by (with_reducible repeat (apply Kd.zg));exact Kd.zf ze.out (fun _ hk => trivial),bO HB⟩
   ·
    replace c64 := Bool.eq_false_iff.mpr c64;subst c64
    rw [if_neg (show ¬ (false = true) by decide)] at H
    simp only [Option.some.injEq,Prod.mk.injEq] at H;obtain ⟨rfl,rfl⟩ := H
    try go_wp2
    replace ze := yf.mk (Kd.DI ze.out);replace aa := yf.mk (zl aa.out);replace ae := yf.mk (zl ae.out);replace ag := yf.mk (zl ag.out);replace HB := yf.mk (zt HB.out);obtain ⟨bW,bR,eB⟩ := Kd.zB ze.out
    (subst eB)
    refine Bt (n := 12) (S := fun w' => w'.cell? ⟨aj,0,none⟩ = some (.int .i64 yj) ∧ w'.cell? ⟨aj,1,none⟩ = some (.slice yK yg.length yE) ∧ w'.cell? ⟨aj,2,none⟩ = some (.int .i64 ym) ∧ w'.cell? ⟨aj,3,none⟩ = some (.int .i64 yn)) (ds := []) (bz 12 0) (by kernel_rfl) rfl rfl (AO aa) (fun hHeld => ?_);refine Ab zK.Ya zK.RV (fun yJ Bv => ?_)
    generalize wc.drew = w89 at ze aa ae ag HB hHeld ⊢;refine pU 1 73 12 2 yJ ?_;refine pU 4 76 12 18 yJ ?_
    refine Co 0 72 12 19 yJ Bv hHeld ?_
    refine Co 2 74 12 23 yJ Bv hHeld ?_
    refine Co 5 77 12 55 yJ Bv hHeld ?_
    refine Co 7 79 12 183 yJ Bv hHeld ?_
    refine Ul (σ := Nat) 1 (bz 12 2047) (fun s_ => [(75,.int .i64 GU),(80,.int .i64 GV),(13,.pointer (some ⟨s_,0,none⟩)),(78,.int .i64 (wrap64 (GU - yn))),(81,.agg #[.int .i64 yj,.slice yK yg.length yE,.int .i64 ym,.int .i64 yn,.slice bW aC.length bR,.int .i64 (wrap64 (GU - yn)),.int .i64 GV])]) (fun s_ w' => (w'.cell? ⟨aj,0,none⟩ = some (.int .i64 yj) ∧ w'.cell? ⟨aj,1,none⟩ = some (.slice yK yg.length yE) ∧ w'.cell? ⟨aj,2,none⟩ = some (.int .i64 ym) ∧ w'.cell? ⟨aj,3,none⟩ = some (.int .i64 yn)) ∧ (Kd.R DN 60 w' w.heap.size (fun k_ => k_ ≠ ak) (.slice bW aC.length bR) aC) ∧ (w'.heap[aj]? = some (.cells #[.int .i64 yj,.slice yK yg.length yE,.int .i64 ym,.int .i64 yn] 29 (0,0))) ∧ (w'.heap[ak]? = some (.cells #[.int .i64 aT,.int .i64 aW,.int .i64 aX,.int .i64 aY] 60 (0,0))) ∧ (w'.heap[aD]? = some (.cells #[.int .i64 aN,.int .i64 aQ] 51 (0,0))) ∧ (w'.heap[s_]? = some (.cells #[.int .i64 0,.slice none 0 0,.int .i64 0,.int .i64 0,.slice none 0 0,.int .i64 0,.int .i64 0] 65 (0,0))) ∧ (w.heap.size ≤ s_) ∧ (w.heap.size ≤ s_) ∧ (aj ≠ s_) ∧ (s_ ≠ aj) ∧ (ak ≠ s_) ∧ (s_ ≠ ak) ∧ (aD ≠ s_) ∧ (s_ ≠ aD) ∧ (Below w.heap.size w w')) ?_ ?_
    rotate_left
    ·
     intro hCont
     refine Rl (i := 3) (j := 10) (Ni := some 75) (Nj := some 13) (bz 12 191) (bz 12 1207) rfl rfl rfl rfl (Ji yJ.out (by kernel_rfl)) (by decide) (by decide) (fun K hK => ?_) (fun K hK => ?_)
     ·
      skip
      refine gO Tryz.func42 #[.agg #[.int .i64 yj,.slice yK yg.length yE,.int .i64 ym,.int .i64 yn]] ?_
      with_reducible refine (Ap.calls Mr yj _ _ yg ym yn GU _ ?yB ?yC Ut.out).mono ?_
      (case yB => exact CU zk)
      (case yC => exact zq.out)
      rintro e w90 ⟨rfl,hb⟩
      refine ⟨_,rfl,?_⟩
      replace ze := CR ze hb;replace aa := bB aa hb;replace ae := bB ae hb;replace ag := bB ag hb;replace HB := bS HB hb;clear hb
      refine hK.out _ _ (AO aa) (fun hHeld => ?_)
      clear hK K
      refine AU (a' := ?_) ?_ ?_
      rotate_left
      ·
       show Act.put _ (some 75) _ = _
       simp only [pz]
       rfl
      refine pU 6 78 12 255 yJ ?_
      refine Rl (i := 8) (j := 10) (Ni := some 80) (Nj := some 13) (bz 12 511) (bz 12 1279) rfl rfl rfl rfl (Ji yJ.out (by kernel_rfl)) (by decide) (by decide) (fun K hK => ?_) (fun K hK => ?_)
      ·
       skip
       refine gO Tryz.func42 #[.agg #[.int .i64 yj,.slice yK yg.length yE,.int .i64 ym,.int .i64 yn]] ?_
       with_reducible refine (Ap.calls Mr yj _ _ yg ym yn GV _ ?yB ?yC Vo.out).mono ?_
       (case yB => exact CU zk)
       (case yC => exact zq.out)
       rintro e w91 ⟨rfl,hb⟩
       refine ⟨_,rfl,?_⟩
       replace ze := CR ze hb;replace aa := bB aa hb;replace ae := bB ae hb;replace ag := bB ag hb;replace HB := bS HB hb;clear hb
       refine hK.out _ _ (AO aa) (fun hHeld => ?_)
       clear hK K
       refine AU (a' := ?_) ?_ ?_
       rotate_left
       ·
        show Act.put _ (some 80) _ = _
        simp only [pz]
        rfl
       refine pU 9 81 12 1023 yJ ?_
       refine CB (i := 10) (N := some 13) (bz 12 2047) rfl rfl (Ar yJ.out (by kernel_rfl)) (by decide) (fun K hK => ?_)
       refine Ei ?hg (N := 13) ?hd (cs := #[.int .i64 0,.slice none 0 0,.int .i64 0,.int .i64 0,.slice none 0 0,.int .i64 0,.int .i64 0]) (t := 65) ?hr ?_;(case hd => rfl);(case hg => rfl);(case hr => go_simp)
       intro af hg w93 yI hb
       have BR := CR ze hb;have BS := bB aa hb;have Ce := bB ae hb;have CZ := bB ag hb;have Dx := bS HB hb;have E5 := yf.mk (yI);have G6 := bG (w := w) hg;have GI := bG (w := w) hg;have Jb := Cq aa hg;have Jc := Aq aa hg;have EG := Cq ae hg;have EH := Aq ae hg;have F4 := Cq ag hg;have aG := Aq ag hg;clear ze aa ae ag HB;have ze := BR;have aa := BS;have ae := Ce;have ag := CZ;have HB := Dx;have ai := E5;have aI := G6;have aH := GI;have ah := Jb;have au := Jc;have av := EG;have ay := EH;have ax := F4;have az := aG;clear BR BS Ce CZ Dx E5 G6 GI Jb Jc EG EH F4 aG hb yI hg
       refine hK.out _ _ (AO aa) (fun hHeld => ?_)
       clear hK K
       refine AU (a' := ?_) ?_ ?_
       rotate_left
       ·
        show Act.put _ (some 13) _ = _
        simp only [pz]
        rfl
       exact Gb (hCont (af) _ ⟨hHeld,(kR ze),(kk aa),(kk ae),(kk ag),(kk ai),aI.out,aH.out,ah.out,au.out,av.out,ay.out,ax.out,az.out,(bO HB)⟩)
      ·
       skip
       refine Ei ?hg (N := 13) ?hd (cs := #[.int .i64 0,.slice none 0 0,.int .i64 0,.int .i64 0,.slice none 0 0,.int .i64 0,.int .i64 0]) (t := 65) ?hr ?_;(case hd => rfl);(case hg => rfl);(case hr => go_simp)
       intro af hg w91 yI hb
       have BR := CR ze hb;have BS := bB aa hb;have Ce := bB ae hb;have CZ := bB ag hb;have Dx := bS HB hb;have E5 := yf.mk (yI);have G6 := bG (w := w) hg;have GI := bG (w := w) hg;have Jb := Cq aa hg;have Jc := Aq aa hg;have EG := Cq ae hg;have EH := Aq ae hg;have F4 := Cq ag hg;have aG := Aq ag hg;clear ze aa ae ag HB;have ze := BR;have aa := BS;have ae := Ce;have ag := CZ;have HB := Dx;have ai := E5;have aI := G6;have aH := GI;have ah := Jb;have au := Jc;have av := EG;have ay := EH;have ax := F4;have az := aG;clear BR BS Ce CZ Dx E5 G6 GI Jb Jc EG EH F4 aG hb yI hg
       refine hK.out _ _ (AO aa) (fun hHeld => ?_)
       clear hK K
       refine AU (a' := ?_) ?_ ?_
       rotate_left
       ·
        show Act.put _ (some 13) _ = _
        simp only [pz]
        rfl
       refine CB (i := 8) (N := some 80) (bz 12 1535) rfl rfl (Ar yJ.out (by kernel_rfl)) (by decide) (fun K hK => ?_)
       refine gO Tryz.func42 #[.agg #[.int .i64 yj,.slice yK yg.length yE,.int .i64 ym,.int .i64 yn]] ?_
       with_reducible refine (Ap.calls Mr yj _ _ yg ym yn GV _ ?yB ?yC Vo.out).mono ?_
       (case yB => exact CU zk)
       (case yC => exact zq.out)
       rintro e w92 ⟨rfl,hb⟩
       refine ⟨_,rfl,?_⟩
       replace ze := CR ze hb;replace aa := bB aa hb;replace ae := bB ae hb;replace ag := bB ag hb;replace ai := bB ai hb;replace HB := bS HB hb;clear hb;obtain ⟨dO,dZ,dm⟩ := Kd.zB ze.out
       ((injection dm with aJ aZ aK;have bg := aJ.symm;have bi := aK.symm;clear aJ aZ aK;subst bg;subst bi))
       refine hK.out _ _ (AO aa) (fun hHeld => ?_)
       clear hK K
       refine AU (a' := ?_) ?_ ?_
       rotate_left
       ·
        show Act.put _ (some 80) _ = _
        simp only [pz]
        rfl
       refine pU 9 81 12 2047 yJ ?_
       exact Gb (hCont (af) _ ⟨hHeld,(kR ze),(kk aa),(kk ae),(kk ag),(kk ai),aI.out,aH.out,ah.out,au.out,av.out,ay.out,ax.out,az.out,(bO HB)⟩)
     ·
      skip
      refine Ei ?hg (N := 13) ?hd (cs := #[.int .i64 0,.slice none 0 0,.int .i64 0,.int .i64 0,.slice none 0 0,.int .i64 0,.int .i64 0]) (t := 65) ?hr ?_;(case hd => rfl);(case hg => rfl);(case hr => go_simp)
      intro af hg w90 yI hb
      have BR := CR ze hb;have BS := bB aa hb;have Ce := bB ae hb;have CZ := bB ag hb;have Dx := bS HB hb;have E5 := yf.mk (yI);have G6 := bG (w := w) hg;have GI := bG (w := w) hg;have Jb := Cq aa hg;have Jc := Aq aa hg;have EG := Cq ae hg;have EH := Aq ae hg;have F4 := Cq ag hg;have aG := Aq ag hg;clear ze aa ae ag HB;have ze := BR;have aa := BS;have ae := Ce;have ag := CZ;have HB := Dx;have ai := E5;have aI := G6;have aH := GI;have ah := Jb;have au := Jc;have av := EG;have ay := EH;have ax := F4;have az := aG;clear BR BS Ce CZ Dx E5 G6 GI Jb Jc EG EH F4 aG hb yI hg
      refine hK.out _ _ (AO aa) (fun hHeld => ?_)
      clear hK K
      refine AU (a' := ?_) ?_ ?_
      rotate_left
      ·
       show Act.put _ (some 13) _ = _
       simp only [pz]
       rfl
      refine CB (i := 3) (N := some 75) (bz 12 1215) rfl rfl (Ar yJ.out (by kernel_rfl)) (by decide) (fun K hK => ?_)
      refine gO Tryz.func42 #[.agg #[.int .i64 yj,.slice yK yg.length yE,.int .i64 ym,.int .i64 yn]] ?_
      with_reducible refine (Ap.calls Mr yj _ _ yg ym yn GU _ ?yB ?yC Ut.out).mono ?_
      (case yB => exact CU zk)
      (case yC => exact zq.out)
      rintro e w91 ⟨rfl,hb⟩
      refine ⟨_,rfl,?_⟩
      replace ze := CR ze hb;replace aa := bB aa hb;replace ae := bB ae hb;replace ag := bB ag hb;replace ai := bB ai hb;replace HB := bS HB hb;clear hb
      refine hK.out _ _ (AO aa) (fun hHeld => ?_)
      clear hK K
      refine AU (a' := ?_) ?_ ?_
      rotate_left
      ·
       show Act.put _ (some 75) _ = _
       simp only [pz]
       rfl
      refine pU 6 78 12 1279 yJ ?_
      refine CB (i := 8) (N := some 80) (bz 12 1535) rfl rfl (Ar yJ.out (by kernel_rfl)) (by decide) (fun K hK => ?_)
      refine gO Tryz.func42 #[.agg #[.int .i64 yj,.slice yK yg.length yE,.int .i64 ym,.int .i64 yn]] ?_
      with_reducible refine (Ap.calls Mr yj _ _ yg ym yn GV _ ?yB ?yC Vo.out).mono ?_
      (case yB => exact CU zk)
      (case yC => exact zq.out)
      rintro e w92 ⟨rfl,hb⟩
      refine ⟨_,rfl,?_⟩
      replace ze := CR ze hb;replace aa := bB aa hb;replace ae := bB ae hb;replace ag := bB ag hb;replace ai := bB ai hb;replace HB := bS HB hb;clear hb;obtain ⟨dO,dZ,dm⟩ := Kd.zB ze.out
      ((injection dm with aJ aZ aK;have bg := aJ.symm;have bi := aK.symm;clear aJ aZ aK;subst bg;subst bi))
      refine hK.out _ _ (AO aa) (fun hHeld => ?_)
      clear hK K
      refine AU (a' := ?_) ?_ ?_
      rotate_left
      ·
       show Act.put _ (some 80) _ = _
       simp only [pz]
       rfl
      refine pU 9 81 12 2047 yJ ?_
      exact Gb (hCont (af) _ ⟨hHeld,(kR ze),(kk aa),(kk ae),(kk ag),(kk ai),aI.out,aH.out,ah.out,au.out,av.out,ay.out,ax.out,az.out,(bO HB)⟩)
    rintro af w94 ⟨hS_,WH,UN,UO,WI,WJ,WK,WL,WM,bI,bJ,bC,bD,bF,bH⟩
    have ai : yf (w94.heap[af]? = some (.cells #[.int .i64 0,.slice none 0 0,.int .i64 0,.int .i64 0,.slice none 0 0,.int .i64 0,.int .i64 0] 65 (0,0))) := ⟨WJ⟩
    have aI : yf (w.heap.size ≤ af) := ⟨WK⟩
    have aH : yf (w.heap.size ≤ af) := ⟨WL⟩
    have ah : yf (aj ≠ af) := ⟨WM⟩
    have au : yf (af ≠ aj) := ⟨bI⟩
    have av : yf (ak ≠ af) := ⟨bJ⟩
    have ay : yf (af ≠ ak) := ⟨bC⟩
    have ax : yf (aD ≠ af) := ⟨bD⟩
    have az : yf (af ≠ aD) := ⟨bF⟩
    replace ze : yf (Kd.R DN 60 w94 w.heap.size (fun k_ => k_ ≠ ak) (.slice bW aC.length bR) aC) := ⟨WH⟩
    replace aa : yf (w94.heap[aj]? = some (.cells #[.int .i64 yj,.slice yK yg.length yE,.int .i64 ym,.int .i64 yn] 29 (0,0))) := ⟨UN⟩
    replace ae : yf (w94.heap[ak]? = some (.cells #[.int .i64 aT,.int .i64 aW,.int .i64 aX,.int .i64 aY] 60 (0,0))) := ⟨UO⟩
    replace ag : yf (w94.heap[aD]? = some (.cells #[.int .i64 aN,.int .i64 aQ] 51 (0,0))) := ⟨WI⟩
    replace HB : yf (Below w.heap.size w w94) := ⟨bH⟩
    clear WH UN UO WI WJ WK WL WM bI bJ bC bD bF bH
    have hHeld : w94.cell? ⟨aj,0,none⟩ = some (.int .i64 yj) ∧ w94.cell? ⟨aj,1,none⟩ = some (.slice yK yg.length yE) ∧ w94.cell? ⟨aj,2,none⟩ = some (.int .i64 ym) ∧ w94.cell? ⟨aj,3,none⟩ = some (.int .i64 yn) := hS_
    refine AU (a' := ?_) ?_ ?_
    rotate_left
    ·
     simp only [Jd,Act.put,List.setIfInBounds_toArray,List.set_cons_zero,List.set_cons_succ]
     rfl
    refine CB (i := 11) (N := none) (bz 12 4095) rfl rfl (Ar yJ.out (by kernel_rfl)) (by decide) (fun K hK => ?_)
    have mK : w94.cell? ⟨af,0,none⟩ = some (.int .i64 0) := (yx ai.out 0).trans rfl
    have gG := zy ai.out 0;have lH := ah.out;have lI := av.out;have lJ := ax.out;have jo := au.out;have jq := ay.out;have jr := az.out
    have mM : w94.cell? ⟨af,1,none⟩ = some (.slice none 0 0) := (yx ai.out 1).trans rfl
    have gH := zy ai.out 1;have lK := ah.out;have lL := av.out;have lM := ax.out;have jv := au.out;have jw := ay.out;have jy := az.out
    have mO : w94.cell? ⟨af,2,none⟩ = some (.int .i64 0) := (yx ai.out 2).trans rfl
    have gI := zy ai.out 2;have lN := ah.out;have lQ := av.out;have lS := ax.out;have jA := au.out;have jB := ay.out;have jC := az.out
    have mP : w94.cell? ⟨af,3,none⟩ = some (.int .i64 0) := (yx ai.out 3).trans rfl
    have gJ := zy ai.out 3;have lT := ah.out;have lU := av.out;have lV := ax.out;have jD := au.out;have jE := ay.out;have jF := az.out
    have mQ : w94.cell? ⟨af,4,none⟩ = some (.slice none 0 0) := (yx ai.out 4).trans rfl
    have gK := zy ai.out 4;have lW := ah.out;have lX := av.out;have lY := ax.out;have jG := au.out;have jH := ay.out;have jI := az.out
    have lZ : w94.cell? ⟨af,5,none⟩ = some (.int .i64 0) := (yx ai.out 5).trans rfl
    have fM := zy ai.out 5;have jX := ah.out;have jY := av.out;have jZ := ax.out;have ib := au.out;have ic := ay.out;have ig := az.out
    have ma : w94.cell? ⟨af,6,none⟩ = some (.int .i64 0) := (yx ai.out 6).trans rfl
    have fO := zy ai.out 6;have kg := ah.out;have ko := av.out;have kr := ax.out;have ik := au.out;have il := ay.out;have iq := az.out
    refine Ia (w1 := ?_) (by rfl) rfl ?_ ?_
    rotate_left
    ·
     go_simp
     rfl
    refine hK.out _ _ ⟨((cell_far (p := ⟨af,_,none⟩) ah.out _).trans (((cell_far (p := ⟨af,_,none⟩) ah.out _).trans (((cell_far (p := ⟨af,_,none⟩) ah.out _).trans (((cell_far (p := ⟨af,_,none⟩) ah.out _).trans (((cell_far (p := ⟨af,_,none⟩) ah.out _).trans (((cell_far (p := ⟨af,_,none⟩) ah.out _).trans (((cell_far (p := ⟨af,_,none⟩) ah.out _).trans (hHeld.1)))))))))))))),((cell_far (p := ⟨af,_,none⟩) ah.out _).trans (((cell_far (p := ⟨af,_,none⟩) ah.out _).trans (((cell_far (p := ⟨af,_,none⟩) ah.out _).trans (((cell_far (p := ⟨af,_,none⟩) ah.out _).trans (((cell_far (p := ⟨af,_,none⟩) ah.out _).trans (((cell_far (p := ⟨af,_,none⟩) ah.out _).trans (((cell_far (p := ⟨af,_,none⟩) ah.out _).trans (hHeld.2.1)))))))))))))),((cell_far (p := ⟨af,_,none⟩) ah.out _).trans (((cell_far (p := ⟨af,_,none⟩) ah.out _).trans (((cell_far (p := ⟨af,_,none⟩) ah.out _).trans (((cell_far (p := ⟨af,_,none⟩) ah.out _).trans (((cell_far (p := ⟨af,_,none⟩) ah.out _).trans (((cell_far (p := ⟨af,_,none⟩) ah.out _).trans (((cell_far (p := ⟨af,_,none⟩) ah.out _).trans (hHeld.2.2.1)))))))))))))),((cell_far (p := ⟨af,_,none⟩) ah.out _).trans (((cell_far (p := ⟨af,_,none⟩) ah.out _).trans (((cell_far (p := ⟨af,_,none⟩) ah.out _).trans (((cell_far (p := ⟨af,_,none⟩) ah.out _).trans (((cell_far (p := ⟨af,_,none⟩) ah.out _).trans (((cell_far (p := ⟨af,_,none⟩) ah.out _).trans (((cell_far (p := ⟨af,_,none⟩) ah.out _).trans (hHeld.2.2.2))))))))))))))⟩ (fun hHeld => ?_)
    clear hK K
    refine Cn (AZ yJ.out (by kernel_rfl)) ?_
    have a2k := aU.out;have a2t := aV.out;have a2l := bM.out;have a2u := bN.out;have jJ := ah.out;have jQ := au.out;have fq := AO aa;have gM := bf aa
    try go_wp2_with (first | ((with_reducible refine yz (f := 38) rfl ?_);refine gL (some 84) Tryz.func38 #[.agg #[.int .i64 yj,.slice yK yg.length yE,.int .i64 ym,.int .i64 yn],.slice bW aC.length bR] ?_;(with_reducible refine (CS.calls Mr yj _ _ yg ym yn _ _ aC true _ ?yB ?yC ?zI ?zJ df.out).mono ?_);(case yB => exact Kd.CE zk.out (bO HB));(case yC => exact zq.out);(case zI => refine (Kd.zb (e := 60) (base := w.heap.size) (ok := fun k_ => k_ ≠ ak) (n := aC.length) (c := bR) ?_).2.2;exact (by (with_reducible repeat (apply Kd.zg));exact (Kd.zf (GG (g := af) (Kd.Bw ze.out ai.out (by decide)) (fun _ hk => hk.2)) (fun _ h_ => h_.1))));(case zJ => exact (Kd.zb ze.out).2.1);rintro e w106 ⟨rfl,hb⟩;refine ⟨_,rfl,?_⟩;replace ze := yf.mk (Kd.Cj (by (with_reducible repeat (apply Kd.zg));exact (Kd.zf (GG (g := af) (Kd.Bw ze.out ai.out (by decide)) (fun _ hk => hk.2)) (fun _ h_ => h_.1))) hb);replace aa := yf.mk (yZ (g := aj) (o := .cells #[.int .i64 yj,.slice yK yg.length yE,.int .i64 ym,.int .i64 yn] 29 (0,0)) (CY aa rfl) hb);replace ae := yf.mk (yZ (g := ak) (o := .cells #[.int .i64 aT,.int .i64 aW,.int .i64 aX,.int .i64 aY] 60 (0,0)) (CY ae rfl) hb);replace ag := yf.mk (yZ (g := aD) (o := .cells #[.int .i64 aN,.int .i64 aQ] 51 (0,0)) (CY ag rfl) hb);replace ai := yf.mk (yZ (g := af) (o := .cells #[.int .i64 yj,.slice yK yg.length yE,.int .i64 ym,.int .i64 yn,.slice bW aC.length bR,.int .i64 (wrap64 (GU - yn)),.int .i64 GV] 65 (0,0)) (CY ai rfl) hb);replace HB := bS HB hb;clear hb;have jK := ay.out;have jR := av.out;have jL := az.out;have jS := ax.out;have fu := Fy ai;have gN := bf ai;have a2m := bn.out;have a2v := bq.out;have fw := AO ae;have gP := bf ae) | (go_at_call 43;(with_reducible refine (BO.calls Mr yj _ _ yg ym yn _ _ aC (wrap64 (GU - yn)) GV aT false _ ?yB ?yC ?zI ?zJ dA.out).mono ?_);(case yB => exact CU zk);(case yC => exact zq.out);(case zI => exact Jq ze);(case zJ => exact (Kd.zb ze.out).2.1);rintro e w112 ⟨rfl,hb⟩;replace ze := CR ze hb;replace aa := bB aa hb;replace ae := bB ae hb;replace ag := bB ag hb;replace ai := bB ai hb;replace HB := bS HB hb;clear hb))
    go_ret2
    exact ⟨_,by rfl,by exact Kd.Dc _ _ _ _ _,bO HB⟩
  ·
   replace JF := Bool.eq_false_iff.mpr JF;subst JF
   rw [if_neg (show ¬ (false = true) by decide)] at H
   simp only [Option.some.injEq,Prod.mk.injEq] at H;obtain ⟨rfl,rfl⟩ := H
   try go_wp2
   replace ze := yf.mk (Kd.DI ze.out);replace aa := yf.mk (zl aa.out);replace ae := yf.mk (zl ae.out);replace ag := yf.mk (zl ag.out);replace HB := yf.mk (zt HB.out);obtain ⟨bU,bP,ed⟩ := Kd.zB ze.out
   (subst ed)
   refine Bt (n := 12) (S := fun w' => w'.cell? ⟨aj,0,none⟩ = some (.int .i64 yj) ∧ w'.cell? ⟨aj,1,none⟩ = some (.slice yK yg.length yE) ∧ w'.cell? ⟨aj,2,none⟩ = some (.int .i64 ym) ∧ w'.cell? ⟨aj,3,none⟩ = some (.int .i64 yn)) (ds := []) (bz 12 0) (by kernel_rfl) rfl rfl (AO aa) (fun hHeld => ?_);refine Ab zK.Ya zK.RV (fun yJ Bv => ?_)
   generalize wc.drew = w113 at ze aa ae ag HB hHeld ⊢;refine pU 1 73 12 2 yJ ?_;refine pU 4 76 12 18 yJ ?_
   refine Co 0 72 12 19 yJ Bv hHeld ?_
   refine Co 2 74 12 23 yJ Bv hHeld ?_
   refine Co 5 77 12 55 yJ Bv hHeld ?_
   refine Co 7 79 12 183 yJ Bv hHeld ?_
   refine Ul (σ := Nat) 1 (bz 12 2047) (fun s_ => [(75,.int .i64 GU),(80,.int .i64 GV),(13,.pointer (some ⟨s_,0,none⟩)),(78,.int .i64 (wrap64 (GU - yn))),(81,.agg #[.int .i64 yj,.slice yK yg.length yE,.int .i64 ym,.int .i64 yn,.slice bU aC.length bP,.int .i64 (wrap64 (GU - yn)),.int .i64 GV])]) (fun s_ w' => (w'.cell? ⟨aj,0,none⟩ = some (.int .i64 yj) ∧ w'.cell? ⟨aj,1,none⟩ = some (.slice yK yg.length yE) ∧ w'.cell? ⟨aj,2,none⟩ = some (.int .i64 ym) ∧ w'.cell? ⟨aj,3,none⟩ = some (.int .i64 yn)) ∧ (Kd.R DN 60 w' w.heap.size (fun k_ => k_ ≠ ak) (.slice bU aC.length bP) aC) ∧ (w'.heap[aj]? = some (.cells #[.int .i64 yj,.slice yK yg.length yE,.int .i64 ym,.int .i64 yn] 29 (0,0))) ∧ (w'.heap[ak]? = some (.cells #[.int .i64 aT,.int .i64 aW,.int .i64 aX,.int .i64 aY] 60 (0,0))) ∧ (w'.heap[aD]? = some (.cells #[.int .i64 aN,.int .i64 aQ] 51 (0,0))) ∧ (w'.heap[s_]? = some (.cells #[.int .i64 0,.slice none 0 0,.int .i64 0,.int .i64 0,.slice none 0 0,.int .i64 0,.int .i64 0] 65 (0,0))) ∧ (w.heap.size ≤ s_) ∧ (w.heap.size ≤ s_) ∧ (aj ≠ s_) ∧ (s_ ≠ aj) ∧ (ak ≠ s_) ∧ (s_ ≠ ak) ∧ (aD ≠ s_) ∧ (s_ ≠ aD) ∧ (Below w.heap.size w w')) ?_ ?_
   rotate_left
   ·
    intro hCont
    refine Rl (i := 3) (j := 10) (Ni := some 75) (Nj := some 13) (bz 12 191) (bz 12 1207) rfl rfl rfl rfl (Ji yJ.out (by kernel_rfl)) (by decide) (by decide) (fun K hK => ?_) (fun K hK => ?_)
    ·
     skip
     refine gO Tryz.func42 #[.agg #[.int .i64 yj,.slice yK yg.length yE,.int .i64 ym,.int .i64 yn]] ?_
     with_reducible refine (Ap.calls Mr yj _ _ yg ym yn GU _ ?yB ?yC Ut.out).mono ?_
     (case yB => exact CU zk)
     (case yC => exact zq.out)
     rintro e w114 ⟨rfl,hb⟩
     refine ⟨_,rfl,?_⟩
     replace ze := CR ze hb;replace aa := bB aa hb;replace ae := bB ae hb;replace ag := bB ag hb;replace HB := bS HB hb;clear hb
     refine hK.out _ _ (AO aa) (fun hHeld => ?_)
     clear hK K
     refine AU (a' := ?_) ?_ ?_
     rotate_left
     ·
      show Act.put _ (some 75) _ = _
      simp only [pz]
      rfl
     refine pU 6 78 12 255 yJ ?_
     refine Rl (i := 8) (j := 10) (Ni := some 80) (Nj := some 13) (bz 12 511) (bz 12 1279) rfl rfl rfl rfl (Ji yJ.out (by kernel_rfl)) (by decide) (by decide) (fun K hK => ?_) (fun K hK => ?_)
     ·
      skip
      refine gO Tryz.func42 #[.agg #[.int .i64 yj,.slice yK yg.length yE,.int .i64 ym,.int .i64 yn]] ?_
      with_reducible refine (Ap.calls Mr yj _ _ yg ym yn GV _ ?yB ?yC Vo.out).mono ?_
      (case yB => exact CU zk)
      (case yC => exact zq.out)
      rintro e w115 ⟨rfl,hb⟩
      refine ⟨_,rfl,?_⟩
      replace ze := CR ze hb;replace aa := bB aa hb;replace ae := bB ae hb;replace ag := bB ag hb;replace HB := bS HB hb;clear hb
      refine hK.out _ _ (AO aa) (fun hHeld => ?_)
      clear hK K
      refine AU (a' := ?_) ?_ ?_
      rotate_left
      ·
       show Act.put _ (some 80) _ = _
       simp only [pz]
       rfl
      refine pU 9 81 12 1023 yJ ?_
      refine CB (i := 10) (N := some 13) (bz 12 2047) rfl rfl (Ar yJ.out (by kernel_rfl)) (by decide) (fun K hK => ?_)
      refine Ei ?hg (N := 13) ?hd (cs := #[.int .i64 0,.slice none 0 0,.int .i64 0,.int .i64 0,.slice none 0 0,.int .i64 0,.int .i64 0]) (t := 65) ?hr ?_;(case hd => rfl);(case hg => rfl);(case hr => go_simp)
      intro af hg w117 yI hb
      have BR := CR ze hb;have BS := bB aa hb;have Ce := bB ae hb;have CZ := bB ag hb;have Dx := bS HB hb;have E5 := yf.mk (yI);have G6 := bG (w := w) hg;have GI := bG (w := w) hg;have Jb := Cq aa hg;have Jc := Aq aa hg;have EG := Cq ae hg;have EH := Aq ae hg;have F4 := Cq ag hg;have aG := Aq ag hg;clear ze aa ae ag HB;have ze := BR;have aa := BS;have ae := Ce;have ag := CZ;have HB := Dx;have ai := E5;have aI := G6;have aH := GI;have ah := Jb;have au := Jc;have av := EG;have ay := EH;have ax := F4;have az := aG;clear BR BS Ce CZ Dx E5 G6 GI Jb Jc EG EH F4 aG hb yI hg
      refine hK.out _ _ (AO aa) (fun hHeld => ?_)
      clear hK K
      refine AU (a' := ?_) ?_ ?_
      rotate_left
      ·
       show Act.put _ (some 13) _ = _
       simp only [pz]
       rfl
      exact Gb (hCont (af) _ ⟨hHeld,(kR ze),(kk aa),(kk ae),(kk ag),(kk ai),aI.out,aH.out,ah.out,au.out,av.out,ay.out,ax.out,az.out,(bO HB)⟩)
     ·
      skip
      refine Ei ?hg (N := 13) ?hd (cs := #[.int .i64 0,.slice none 0 0,.int .i64 0,.int .i64 0,.slice none 0 0,.int .i64 0,.int .i64 0]) (t := 65) ?hr ?_;(case hd => rfl);(case hg => rfl);(case hr => go_simp)
      intro af hg w115 yI hb
      have BR := CR ze hb;have BS := bB aa hb;have Ce := bB ae hb;have CZ := bB ag hb;have Dx := bS HB hb;have E5 := yf.mk (yI);have G6 := bG (w := w) hg;have GI := bG (w := w) hg;have Jb := Cq aa hg;have Jc := Aq aa hg;have EG := Cq ae hg;have EH := Aq ae hg;have F4 := Cq ag hg;have aG := Aq ag hg;clear ze aa ae ag HB;have ze := BR;have aa := BS;have ae := Ce;have ag := CZ;have HB := Dx;have ai := E5;have aI := G6;have aH := GI;have ah := Jb;have au := Jc;have av := EG;have ay := EH;have ax := F4;have az := aG;clear BR BS Ce CZ Dx E5 G6 GI Jb Jc EG EH F4 aG hb yI hg
      refine hK.out _ _ (AO aa) (fun hHeld => ?_)
      clear hK K
      refine AU (a' := ?_) ?_ ?_
      rotate_left
      ·
       show Act.put _ (some 13) _ = _
       simp only [pz]
       rfl
      refine CB (i := 8) (N := some 80) (bz 12 1535) rfl rfl (Ar yJ.out (by kernel_rfl)) (by decide) (fun K hK => ?_)
      refine gO Tryz.func42 #[.agg #[.int .i64 yj,.slice yK yg.length yE,.int .i64 ym,.int .i64 yn]] ?_
      with_reducible refine (Ap.calls Mr yj _ _ yg ym yn GV _ ?yB ?yC Vo.out).mono ?_
      (case yB => exact CU zk)
      (case yC => exact zq.out)
      rintro e w116 ⟨rfl,hb⟩
      refine ⟨_,rfl,?_⟩
      replace ze := CR ze hb;replace aa := bB aa hb;replace ae := bB ae hb;replace ag := bB ag hb;replace ai := bB ai hb;replace HB := bS HB hb;clear hb;obtain ⟨dM,dX,dh⟩ := Kd.zB ze.out
      ((injection dh with aJ aZ aK;have bg := aJ.symm;have bi := aK.symm;clear aJ aZ aK;subst bg;subst bi))
      refine hK.out _ _ (AO aa) (fun hHeld => ?_)
      clear hK K
      refine AU (a' := ?_) ?_ ?_
      rotate_left
      ·
       show Act.put _ (some 80) _ = _
       simp only [pz]
       rfl
      refine pU 9 81 12 2047 yJ ?_
      exact Gb (hCont (af) _ ⟨hHeld,(kR ze),(kk aa),(kk ae),(kk ag),(kk ai),aI.out,aH.out,ah.out,au.out,av.out,ay.out,ax.out,az.out,(bO HB)⟩)
    ·
     skip
     refine Ei ?hg (N := 13) ?hd (cs := #[.int .i64 0,.slice none 0 0,.int .i64 0,.int .i64 0,.slice none 0 0,.int .i64 0,.int .i64 0]) (t := 65) ?hr ?_;(case hd => rfl);(case hg => rfl);(case hr => go_simp)
     intro af hg w114 yI hb
     have BR := CR ze hb;have BS := bB aa hb;have Ce := bB ae hb;have CZ := bB ag hb;have Dx := bS HB hb;have E5 := yf.mk (yI);have G6 := bG (w := w) hg;have GI := bG (w := w) hg;have Jb := Cq aa hg;have Jc := Aq aa hg;have EG := Cq ae hg;have EH := Aq ae hg;have F4 := Cq ag hg;have aG := Aq ag hg;clear ze aa ae ag HB;have ze := BR;have aa := BS;have ae := Ce;have ag := CZ;have HB := Dx;have ai := E5;have aI := G6;have aH := GI;have ah := Jb;have au := Jc;have av := EG;have ay := EH;have ax := F4;have az := aG;clear BR BS Ce CZ Dx E5 G6 GI Jb Jc EG EH F4 aG hb yI hg
     refine hK.out _ _ (AO aa) (fun hHeld => ?_)
     clear hK K
     refine AU (a' := ?_) ?_ ?_
     rotate_left
     ·
      show Act.put _ (some 13) _ = _
      simp only [pz]
      rfl
     refine CB (i := 3) (N := some 75) (bz 12 1215) rfl rfl (Ar yJ.out (by kernel_rfl)) (by decide) (fun K hK => ?_)
     refine gO Tryz.func42 #[.agg #[.int .i64 yj,.slice yK yg.length yE,.int .i64 ym,.int .i64 yn]] ?_
     with_reducible refine (Ap.calls Mr yj _ _ yg ym yn GU _ ?yB ?yC Ut.out).mono ?_
     (case yB => exact CU zk)
     (case yC => exact zq.out)
     rintro e w115 ⟨rfl,hb⟩
     refine ⟨_,rfl,?_⟩
     replace ze := CR ze hb;replace aa := bB aa hb;replace ae := bB ae hb;replace ag := bB ag hb;replace ai := bB ai hb;replace HB := bS HB hb;clear hb
     refine hK.out _ _ (AO aa) (fun hHeld => ?_)
     clear hK K
     refine AU (a' := ?_) ?_ ?_
     rotate_left
     ·
      show Act.put _ (some 75) _ = _
      simp only [pz]
      rfl
     refine pU 6 78 12 1279 yJ ?_
     refine CB (i := 8) (N := some 80) (bz 12 1535) rfl rfl (Ar yJ.out (by kernel_rfl)) (by decide) (fun K hK => ?_)
     refine gO Tryz.func42 #[.agg #[.int .i64 yj,.slice yK yg.length yE,.int .i64 ym,.int .i64 yn]] ?_
     with_reducible refine (Ap.calls Mr yj _ _ yg ym yn GV _ ?yB ?yC Vo.out).mono ?_
     (case yB => exact CU zk)
     (case yC => exact zq.out)
     rintro e w116 ⟨rfl,hb⟩
     refine ⟨_,rfl,?_⟩
     replace ze := CR ze hb;replace aa := bB aa hb;replace ae := bB ae hb;replace ag := bB ag hb;replace ai := bB ai hb;replace HB := bS HB hb;clear hb;obtain ⟨dM,dX,dh⟩ := Kd.zB ze.out
     ((injection dh with aJ aZ aK;have bg := aJ.symm;have bi := aK.symm;clear aJ aZ aK;subst bg;subst bi))
     refine hK.out _ _ (AO aa) (fun hHeld => ?_)
     clear hK K
     refine AU (a' := ?_) ?_ ?_
     rotate_left
     ·
      show Act.put _ (some 80) _ = _
      simp only [pz]
      rfl
     refine pU 9 81 12 2047 yJ ?_
     exact Gb (hCont (af) _ ⟨hHeld,(kR ze),(kk aa),(kk ae),(kk ag),(kk ai),aI.out,aH.out,ah.out,au.out,av.out,ay.out,ax.out,az.out,(bO HB)⟩)
   rintro af w118 ⟨hS_,WH,UN,UO,WI,WJ,WK,WL,WM,bI,bJ,bC,bD,bF,bH⟩
   have ai : yf (w118.heap[af]? = some (.cells #[.int .i64 0,.slice none 0 0,.int .i64 0,.int .i64 0,.slice none 0 0,.int .i64 0,.int .i64 0] 65 (0,0))) := ⟨WJ⟩
   have aI : yf (w.heap.size ≤ af) := ⟨WK⟩
   have aH : yf (w.heap.size ≤ af) := ⟨WL⟩
   have ah : yf (aj ≠ af) := ⟨WM⟩
   have au : yf (af ≠ aj) := ⟨bI⟩
   have av : yf (ak ≠ af) := ⟨bJ⟩
   have ay : yf (af ≠ ak) := ⟨bC⟩
   have ax : yf (aD ≠ af) := ⟨bD⟩
   have az : yf (af ≠ aD) := ⟨bF⟩
   replace ze : yf (Kd.R DN 60 w118 w.heap.size (fun k_ => k_ ≠ ak) (.slice bU aC.length bP) aC) := ⟨WH⟩
   replace aa : yf (w118.heap[aj]? = some (.cells #[.int .i64 yj,.slice yK yg.length yE,.int .i64 ym,.int .i64 yn] 29 (0,0))) := ⟨UN⟩
   replace ae : yf (w118.heap[ak]? = some (.cells #[.int .i64 aT,.int .i64 aW,.int .i64 aX,.int .i64 aY] 60 (0,0))) := ⟨UO⟩
   replace ag : yf (w118.heap[aD]? = some (.cells #[.int .i64 aN,.int .i64 aQ] 51 (0,0))) := ⟨WI⟩
   replace HB : yf (Below w.heap.size w w118) := ⟨bH⟩
   clear WH UN UO WI WJ WK WL WM bI bJ bC bD bF bH
   have hHeld : w118.cell? ⟨aj,0,none⟩ = some (.int .i64 yj) ∧ w118.cell? ⟨aj,1,none⟩ = some (.slice yK yg.length yE) ∧ w118.cell? ⟨aj,2,none⟩ = some (.int .i64 ym) ∧ w118.cell? ⟨aj,3,none⟩ = some (.int .i64 yn) := hS_
   refine AU (a' := ?_) ?_ ?_
   rotate_left
   ·
    simp only [Jd,Act.put,List.setIfInBounds_toArray,List.set_cons_zero,List.set_cons_succ]
    rfl
   refine CB (i := 11) (N := none) (bz 12 4095) rfl rfl (Ar yJ.out (by kernel_rfl)) (by decide) (fun K hK => ?_)
   have mf : w118.cell? ⟨af,0,none⟩ = some (.int .i64 0) := (yx ai.out 0).trans rfl
   have fP := zy ai.out 0;have ku := ah.out;have kv := av.out;have kw := ax.out;have iw := au.out;have iy := ay.out;have iA := az.out
   have mg : w118.cell? ⟨af,1,none⟩ = some (.slice none 0 0) := (yx ai.out 1).trans rfl
   have fQ := zy ai.out 1;have ky := ah.out;have kz := av.out;have kC := ax.out;have iB := au.out;have iC := ay.out;have iD := az.out
   have mh : w118.cell? ⟨af,2,none⟩ = some (.int .i64 0) := (yx ai.out 2).trans rfl
   have fT := zy ai.out 2;have kD := ah.out;have kE := av.out;have kF := ax.out;have iE := au.out;have iF := ay.out;have iG := az.out
   have mi : w118.cell? ⟨af,3,none⟩ = some (.int .i64 0) := (yx ai.out 3).trans rfl
   have fU := zy ai.out 3;have kG := ah.out;have kH := av.out;have kI := ax.out;have iH := au.out;have iI := ay.out;have iJ := az.out
   have mo : w118.cell? ⟨af,4,none⟩ = some (.slice none 0 0) := (yx ai.out 4).trans rfl
   have fV := zy ai.out 4;have kJ := ah.out;have kK := av.out;have kL := ax.out;have iK := au.out;have iL := ay.out;have iM := az.out
   have mq : w118.cell? ⟨af,5,none⟩ = some (.int .i64 0) := (yx ai.out 5).trans rfl
   have fZ := zy ai.out 5;have kM := ah.out;have kN := av.out;have kP := ax.out;have iN := au.out;have iO := ay.out;have iP := az.out
   have mr : w118.cell? ⟨af,6,none⟩ = some (.int .i64 0) := (yx ai.out 6).trans rfl
   have gp := zy ai.out 6;have kQ := ah.out;have kT := av.out;have kU := ax.out;have iQ := au.out;have iR := ay.out;have iT := az.out
   refine Ia (w1 := ?_) (by rfl) rfl ?_ ?_
   rotate_left
   ·
    go_simp
    rfl
   refine hK.out _ _ ⟨((cell_far (p := ⟨af,_,none⟩) ah.out _).trans (((cell_far (p := ⟨af,_,none⟩) ah.out _).trans (((cell_far (p := ⟨af,_,none⟩) ah.out _).trans (((cell_far (p := ⟨af,_,none⟩) ah.out _).trans (((cell_far (p := ⟨af,_,none⟩) ah.out _).trans (((cell_far (p := ⟨af,_,none⟩) ah.out _).trans (((cell_far (p := ⟨af,_,none⟩) ah.out _).trans (hHeld.1)))))))))))))),((cell_far (p := ⟨af,_,none⟩) ah.out _).trans (((cell_far (p := ⟨af,_,none⟩) ah.out _).trans (((cell_far (p := ⟨af,_,none⟩) ah.out _).trans (((cell_far (p := ⟨af,_,none⟩) ah.out _).trans (((cell_far (p := ⟨af,_,none⟩) ah.out _).trans (((cell_far (p := ⟨af,_,none⟩) ah.out _).trans (((cell_far (p := ⟨af,_,none⟩) ah.out _).trans (hHeld.2.1)))))))))))))),((cell_far (p := ⟨af,_,none⟩) ah.out _).trans (((cell_far (p := ⟨af,_,none⟩) ah.out _).trans (((cell_far (p := ⟨af,_,none⟩) ah.out _).trans (((cell_far (p := ⟨af,_,none⟩) ah.out _).trans (((cell_far (p := ⟨af,_,none⟩) ah.out _).trans (((cell_far (p := ⟨af,_,none⟩) ah.out _).trans (((cell_far (p := ⟨af,_,none⟩) ah.out _).trans (hHeld.2.2.1)))))))))))))),((cell_far (p := ⟨af,_,none⟩) ah.out _).trans (((cell_far (p := ⟨af,_,none⟩) ah.out _).trans (((cell_far (p := ⟨af,_,none⟩) ah.out _).trans (((cell_far (p := ⟨af,_,none⟩) ah.out _).trans (((cell_far (p := ⟨af,_,none⟩) ah.out _).trans (((cell_far (p := ⟨af,_,none⟩) ah.out _).trans (((cell_far (p := ⟨af,_,none⟩) ah.out _).trans (hHeld.2.2.2))))))))))))))⟩ (fun hHeld => ?_)
   clear hK K
   refine Cn (AZ yJ.out (by kernel_rfl)) ?_
   have a2n := aU.out;have a2w := aV.out;have jM := bM.out;have jT := bN.out;have jN := ah.out;have jU := au.out;have fA := AO aa;have gQ := bf aa
   try go_wp2_with (((with_reducible refine yz (f := 38) rfl ?_);refine gL (some 84) Tryz.func38 #[.agg #[.int .i64 yj,.slice yK yg.length yE,.int .i64 ym,.int .i64 yn],.slice bU aC.length bP] ?_;(with_reducible refine (CS.calls Mr yj _ _ yg ym yn _ _ aC false _ ?yB ?yC ?zI ?zJ df.out).mono ?_);(case yB => exact Kd.CE zk.out (bO HB));(case yC => exact zq.out);(case zI => refine (Kd.zb (e := 60) (base := w.heap.size) (ok := fun k_ => k_ ≠ ak) (n := aC.length) (c := bP) ?_).2.2;exact (by (with_reducible repeat (apply Kd.zg));exact (Kd.zf (GG (g := af) (Kd.Bw ze.out ai.out (by decide)) (fun _ hk => hk.2)) (fun _ h_ => h_.1))));(case zJ => exact (Kd.zb ze.out).2.1);rintro e w130 ⟨rfl,hb⟩;refine ⟨_,rfl,?_⟩;replace ze := yf.mk (Kd.Cj (by (with_reducible repeat (apply Kd.zg));exact (Kd.zf (GG (g := af) (Kd.Bw ze.out ai.out (by decide)) (fun _ hk => hk.2)) (fun _ h_ => h_.1))) hb);replace aa := yf.mk (yZ (g := aj) (o := .cells #[.int .i64 yj,.slice yK yg.length yE,.int .i64 ym,.int .i64 yn] 29 (0,0)) (CY aa rfl) hb);replace ae := yf.mk (yZ (g := ak) (o := .cells #[.int .i64 aT,.int .i64 aW,.int .i64 aX,.int .i64 aY] 60 (0,0)) (CY ae rfl) hb);replace ag := yf.mk (yZ (g := aD) (o := .cells #[.int .i64 aN,.int .i64 aQ] 51 (0,0)) (CY ag rfl) hb);replace ai := yf.mk (yZ (g := af) (o := .cells #[.int .i64 yj,.slice yK yg.length yE,.int .i64 ym,.int .i64 yn,.slice bU aC.length bP,.int .i64 (wrap64 (GU - yn)),.int .i64 GV] 65 (0,0)) (CY ai rfl) hb);replace HB := bS HB hb;clear hb))
   go_ret2
   exact ⟨_,by rfl,by exact Kd.Dc _ _ _ _ _,bO HB⟩
end Go.Proofs.YtjonnfmoocijlaaGreat.P
