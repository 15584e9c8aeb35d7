/- Texts of a claim, packed. -/
import Derived.Test.YtjonnfmoocijlaaGreatE27
set_option linter.all false
namespace Go.Proofs.YtjonnfmoocijlaaGreat.P
open Go.RowKit Go.Proofs.YtjonnfmoocijlaaGreatKW.PrintWords Go.Proofs.YtjonnfmoocijlaaGreatKW.PrintLast Go.Proofs.YtjonnfmoocijlaaGreatKW.PrintMore
attribute [local go_sem] zN zP Af Ag zz zA zO zQ
mutual
def yH.l0 : Nat → List (AP) → Int → List Bool → Int → Int → Int → List (List Int) → Int → Int → Int → Int → Option (Int × Int × Bool)
 | 0,_,_,_,_,_,_,_,_,_,_,_ => none
 | k + 1,x1,x2,x3,DX,F5,aa,af,ag,ae,ah,ai => if F5 < aa then (yH.l1 k x1 x2 x3 DX F5 false 0 aa af ag ae ah ai) else (some (ah,ai,decide (DX ≥ 0)))
def yH.l1 : Nat → List (AP) → Int → List Bool → Int → Int → Bool → Int → Int → List (List Int) → Int → Int → Int → Int → Option (Int × Int × Bool)
 | 0,_,_,_,_,_,_,_,_,_,_,_,_,_ => none
 | k + 1,x1,x2,x3,DX,F5,G8,IQ,aa,af,ag,ae,ah,ai => (zn.f aa af ag ae).bind fun Vk => (if IQ < Vk then (if G8 = true then (yH.l1 k x1 x2 x3 DX F5 true (wrap64 (IQ + 1)) aa af ag ae ah ai) else ((zM.f k aa af ag ae x1 x2 IQ).bind fun aj => (yH.l1 k x1 x2 x3 DX F5 (aj.1 == F5) (wrap64 (IQ + 1)) aa af ag ae ah ai))) else ((zx.f k aa af ag ae x1 F5).bind fun Ez => (if 0 ≤ F5 then (if F5 < (x3.length : Int) then (if Ir false x3 F5 = true then (yH.j2 k x1 x2 x3 DX F5 Ez true aa af ag ae ah ai) else (if G8 = true then (yH.j2 k x1 x2 x3 DX F5 Ez true aa af ag ae ah ai) else (if (Ez.length : Int) ≥ ae then (yH.j2 k x1 x2 x3 DX F5 Ez true aa af ag ae ah ai) else (if DX ≥ 0 then (yH.j2 k x1 x2 x3 DX F5 Ez (decide ((Ez.length : Int) ≥ DX)) aa af ag ae ah ai) else (yH.j2 k x1 x2 x3 DX F5 Ez false aa af ag ae ah ai))))) else (none)) else (none))))
def yH.j2 : Nat → List (AP) → Int → List Bool → Int → Int → List Int → Bool → Int → List (List Int) → Int → Int → Int → Int → Option (Int × Int × Bool)
 | 0,_,_,_,_,_,_,_,_,_,_,_,_,_ => none
 | k + 1,x1,x2,x3,DX,F5,KT,ak,aa,af,ag,ae,ah,ai => if ak = true then (yH.l0 k x1 x2 x3 DX (wrap64 (F5 + 1)) aa af ag ae ah ai) else ((AY.f aa af ag ae).bind fun Zu => (yH.l2 k x1 x2 x3 F5 KT Zu 0 aa af ag ae))
def yH.l2 : Nat → List (AP) → Int → List Bool → Int → List Int → Int → Int → Int → List (List Int) → Int → Int → Option (Int × Int × Bool)
 | 0,_,_,_,_,_,_,_,_,_,_,_ => none
 | k + 1,x1,x2,x3,F5,KT,P6,Rx,aa,af,ag,ae => if Rx < (KT.length : Int) then (if 0 ≤ Rx then (if (rd KT Rx) = P6 then (yH.l2 k x1 x2 x3 F5 KT (wrap64 (P6 + 1)) (wrap64 (Rx + 1)) aa af ag ae) else (yH.l0 k x1 x2 x3 (KT.length : Int) (wrap64 (F5 + 1)) aa af ag ae F5 P6)) else (none)) else (yH.l0 k x1 x2 x3 (KT.length : Int) (wrap64 (F5 + 1)) aa af ag ae F5 P6)
end
def yH.f (k : Nat) (yj : Int) (yg : List (List Int)) (ym : Int) (yn : Int) (l1 : List (AP)) (a2 : Int) (l3 : List Bool) : Option (Int × Int × Bool) := yH.l0 k l1 a2 l3 (-1) 0 yj yg ym yn 0 0
set_option maxHeartbeats 8000000 in
set_option maxRecDepth 100000 in
theorem yH.calls (k : Nat) (yj : Int) (yK : Option Addr) (yE : Nat) (yg : List (List Int)) (ym : Int) (yn : Int) (A1 : Option Addr) (c1 : Nat) (l1 : List (AP)) (a2 : Int) (A3 : Option Addr) (c3 : Nat) (l3 : List Bool) (r1 : Int) (r2 : Int) (r3 : Bool) (w : World) (zS : Kd.C (Kd.slice 3 (Kd.int .i64)) w yK yg.length yg) (zT : yg.length ≤ yE) (hr1 : Kd.C DN w A1 l1.length l1) (hc1 : l1.length ≤ c1) (hr3 : Kd.C Kd.bool w A3 l3.length l3) (hc3 : l3.length ≤ c3) (h : yH.f k yj yg ym yn l1 a2 l3 = some (r1,r2,r3)) :
  Calls Tryz.prog 20 #[.agg #[.int .i64 yj,.slice yK yg.length yE,.int .i64 ym,.int .i64 yn],.slice A1 l1.length c1,.int .i64 a2,.slice A3 l3.length c3] w fun e w' => e = .returned (.tuple #[.agg #[.int .i64 r1,.int .i64 r2],.bool r3]) ∧ Below w.heap.size w w' := by
 have ET := Tryz.underlying29;have KE := Tryz.underlying51
 have TN : ∀ (x0 x1 : Value) (W : World),(Instr.field 51 (.agg #[x0,x1]) 0).run Tryz.prog W = .ok (x0) W := fun x0 x1 W => by rfl
 have zk := yf.mk zS;have zq := yf.mk zT;clear zS zT;have HR1 := yf.mk hr1;have Gt := yf.mk hc1;clear hr1 hc1;have HR3 := yf.mk hr3;have HC3 := yf.mk hc3;clear hr3 hc3;have HB := yf.mk (Below.refl w.heap.size w)
 have H : (yH.l0 k l1 a2 l3 (-1) 0 yj yg ym yn 0 0) = some (r1,r2,r3) := h
 clear h;have H' := yf.mk H;clear H
 go_enter Tryz.func20,Tryz.ntmps20
 go_wp2_with (first | ((with_reducible refine yG (N := 4) rfl ?_);(try (refine AX (by rfl) ?_;dsimp only));refine yD rfl (N := 4) rfl (cs := #[.int .i64 yj,.slice yK yg.length yE,.int .i64 ym,.int .i64 yn]) (t := 29) (by go_simp) ?_;intro aU hg w5 yI hb;have aa := yf.mk (yI);have bL := bG (w := w) hg;have bH := bG (w := w) hg;replace HB := bS HB hb;clear hb yI hg) | ((with_reducible refine yG (N := 8) rfl ?_);(try (refine AX (by rfl) ?_;dsimp only));refine yD rfl (N := 8) rfl (cs := #[.int .i64 0,.int .i64 0]) (t := 51) (by go_simp) ?_;intro aM hg w6 yI hb;have af := yf.mk (yI);have bM := bG (w := w) hg;have bI := bG (w := w) hg;have az := Cq aa hg;have aA := Aq aa hg;replace aa := bB aa hb;replace HB := bS HB hb;clear hb yI hg) | ((with_reducible refine yG (N := 10) rfl ?_);(try (refine AX (by rfl) ?_;dsimp only));refine yD rfl (N := 10) rfl (cs := #[.int .i64 0,.int .i64 0]) (t := 51) (by go_simp) ?_;intro aV hg w7 yI hb;have ae := yf.mk (yI);have bN := bG (w := w) hg;have bJ := bG (w := w) hg;have av := Cq aa hg;have ax := Aq aa hg;have aN := Cq af hg;have aQ := Aq af hg;replace aa := bB aa hb;replace af := bB af hb;replace HB := bS HB hb;clear hb yI hg;have a2s := ax.out;have a2B := av.out;have a4z := aQ.out;have a4T := aN.out;have Kr := bc2 ae;have Kz := bf ae))
 go_loopg [11,12] k (fun kq v11 v12 w' => ∃ (Ae : Int) (AV : Int) (aj : Int) (ak : Int),v11 = .int .i64 Ae ∧ v12 = .int .i64 AV ∧ yf (yH.l0 kq l1 a2 l3 Ae AV yj yg ym yn aj ak = some (r1,r2,r3)) ∧ yf (kq ≤ k) ∧ yf (w'.heap[aU]? = some (.cells #[.int .i64 yj,(.slice yK yg.length yE),.int .i64 ym,.int .i64 yn] 29 (0,0))) ∧ yf (w'.heap[aM]? = some (.cells #[.int .i64 0,.int .i64 0] 51 (0,0))) ∧ yf (w'.heap[aV]? = some (.cells #[.int .i64 aj,.int .i64 ak] 51 (0,0))) ∧ yf (Below w.heap.size w w'))
 case atStart => exact ⟨((-1)),(0),(0),(0),(by rfl),(by rfl),H',⟨Nat.le_refl _⟩,bK aa rfl,bK af rfl,bK ae rfl,⟨bO HB⟩⟩
 case round =>
 clear H' Kr Kz;obtain ⟨Ae,AV,aj,ak,rfl,rfl,HA,Bn,aa,af,ae,HB⟩ := hrel
 cases gk with
 | zero => exact absurd HA.out (by simp [yH.l0])
 | succ k1 =>
 have H := HA.out;clear HA;simp only [yH.l0] at H
 by_cases c11 : AV < yj
 rotate_left
 ·
  rw [if_neg c11] at H;have Fv := decide_eq_false c11;clear c11;simp only [Option.some.injEq,Prod.mk.injEq] at H;obtain ⟨rfl,rfl,rfl⟩ := H;have a4u := az.out;have a4O := aA.out;have bY := av.out;have cu := ax.out;have bR := AO aa;have bV := bf aa;have a0H := aQ.out;have a0Y := aN.out;have bT := bc2 ae;have bW := bf ae;have a0e := bc2 af;have a0r := bf af
  go_wp2
  refine bodyPost_ret (BB rfl _ _ aM 51 #[.int .i64 aj,.int .i64 ak] (0,0) _ rfl (CY af rfl) Tryz.underlying51 rfl (by kernel_rfl)) rfl ?_
  exact ⟨by rfl,bO HB⟩
 rw [if_pos c11] at H;have Fv := decide_eq_true c11;clear c11;have H' := yf.mk H;clear H;have WY := az.out;have Xd := aA.out;have WZ := av.out;have Xe := ax.out;have I6 := AO aa;have I7 := bf aa
 go_wp2
 go_loopg [13,14] k1 (fun kq v13 v14 w' => ∃ (Cy : Bool) (FD : Int),v13 = .bool Cy ∧ v14 = .int .i64 FD ∧ yf (yH.l1 kq l1 a2 l3 Ae AV Cy FD yj yg ym yn aj ak = some (r1,r2,r3)) ∧ yf (kq ≤ k1) ∧ yf (w'.heap[aU]? = some (.cells #[.int .i64 yj,(.slice yK yg.length yE),.int .i64 ym,.int .i64 yn] 29 (0,0))) ∧ yf (w'.heap[aM]? = some (.cells #[.int .i64 0,.int .i64 0] 51 (0,0))) ∧ yf (w'.heap[aV]? = some (.cells #[.int .i64 aj,.int .i64 ak] 51 (0,0))) ∧ yf (Below w.heap.size w w'))
 case atStart => exact ⟨(false),(0),(by rfl),(by rfl),H',⟨Nat.le_refl _⟩,⟨kk aa⟩,⟨kk af⟩,⟨kk ae⟩,⟨bO HB⟩⟩
 case round =>
 clear H' Fv I6 I7;obtain ⟨Cy,FD,rfl,rfl,HA,Di,aa,af,ae,HB⟩ := hrel
 cases gk with
 | zero => exact absurd HA.out (by simp [yH.l1])
 | succ k2 =>
  have H := HA.out;clear HA;simp only [yH.l1] at H;obtain ⟨Vk,Yj,H⟩ := bE H
  try dsimp only at H
  by_cases c16 : FD < Vk
  ·
   rw [if_pos c16] at H;have FC := decide_eq_true c16;clear c16
   by_cases c17 : Cy = true
   ·
    subst c17;rw [if_pos rfl] at H;have H' := yf.mk H;clear H;have a0t := az.out;have a0K := aA.out;have a0u := av.out;have a0L := ax.out;have OB := AO aa;have OE := bf aa
    go_wp2_with (((with_reducible refine yz (f := 14) rfl ?_);refine gL (some 28) Tryz.func14 #[.agg #[.int .i64 yj,.slice yK yg.length yE,.int .i64 ym,.int .i64 yn]] ?_;(with_reducible refine (zn.calls yj _ _ yg ym yn Vk _ ?yB ?yC Yj.out).mono ?_);(case yB => exact CU zk);(case yC => exact zq.out);rintro e w21 ⟨rfl,hb⟩;refine ⟨_,rfl,?_⟩;replace aa := bB aa hb;replace af := bB af hb;replace ae := bB ae hb;replace HB := bS HB hb;clear hb))
    go_roundg k2
    case measure => have := Bn.out;have := Di.out;omega
    case rel => exact ⟨(true),(wrap64 (FD + 1)),(by rfl),(by rfl),H',⟨by have := Bn.out;have := Di.out;omega⟩,⟨kk aa⟩,⟨kk af⟩,⟨kk ae⟩,⟨bO HB⟩⟩
   ·
    replace c17 := Bool.eq_false_iff.mpr c17;subst c17
    rw [if_neg (show ¬ (false = true) by decide)] at H
    obtain ⟨⟨bn,bC⟩,A22,H⟩ := bE H
    try dsimp only at H
    have H' := yf.mk H;clear H;have a4i := az.out;have a4C := aA.out;have TW := av.out;have U8 := ax.out;have LU := AO aa;have LX := bf aa
    go_wp2_with (first | ((with_reducible refine yz (f := 14) rfl ?_);refine gL (some 28) Tryz.func14 #[.agg #[.int .i64 yj,.slice yK yg.length yE,.int .i64 ym,.int .i64 yn]] ?_;(with_reducible refine (zn.calls yj _ _ yg ym yn Vk _ ?yB ?yC Yj.out).mono ?_);(case yB => exact CU zk);(case yC => exact zq.out);rintro e w26 ⟨rfl,hb⟩;refine ⟨_,rfl,?_⟩;replace aa := bB aa hb;replace af := bB af hb;replace ae := bB ae hb;replace HB := bS HB hb;clear hb;have IC := AO aa;have II := bf aa) | (go_at_call 30;(with_reducible refine (zM.calls k2 yj _ _ yg ym yn _ _ l1 a2 FD bn bC _ ?yB ?yC ?zI ?zJ A22.out).mono ?_);(case yB => exact CU zk);(case yC => exact zq.out);(case zI => exact CU HR1);(case zJ => exact Gt.out);rintro e w28 ⟨rfl,hb⟩;replace aa := bB aa hb;replace af := bB af hb;replace ae := bB ae hb;replace HB := bS HB hb;clear hb))
    go_roundg k2
    case measure => have := Bn.out;have := Di.out;omega
    case rel => exact ⟨((bn == AV)),(wrap64 (FD + 1)),(by rfl),(by rfl),H',⟨by have := Bn.out;have := Di.out;omega⟩,⟨kk aa⟩,⟨kk af⟩,⟨kk ae⟩,⟨bO HB⟩⟩
  ·
   rw [if_neg c16] at H;have FC := decide_eq_false c16;clear c16;obtain ⟨Ez,A29,H⟩ := bE H
   try dsimp only at H
   have aX := yf.mk H;clear H;have X5 := az.out;have Xi := aA.out;have QL := av.out;have QP := ax.out;have Nz := AO aa;have NF := bf aa
   go_upto_region 11 with (first | ((with_reducible refine yz (f := 14) rfl ?_);refine gL (some 28) Tryz.func14 #[.agg #[.int .i64 yj,.slice yK yg.length yE,.int .i64 ym,.int .i64 yn]] ?_;(with_reducible refine (zn.calls yj _ _ yg ym yn Vk _ ?yB ?yC Yj.out).mono ?_);(case yB => exact CU zk);(case yC => exact zq.out);rintro e w34 ⟨rfl,hb⟩;refine ⟨_,rfl,?_⟩;replace aa := bB aa hb;replace af := bB af hb;replace ae := bB ae hb;replace HB := bS HB hb;clear hb;have Ku := AO aa;have KC := bf aa) | ((with_reducible refine yz (f := 12) rfl ?_);refine gL (some 46) Tryz.func12 #[.agg #[.int .i64 yj,.slice yK yg.length yE,.int .i64 ym,.int .i64 yn],.slice A1 l1.length c1,.int .i64 AV] ?_;(with_reducible refine (zx.calls k2 yj _ _ yg ym yn _ _ l1 AV Ez _ ?yB ?yC ?zI ?zJ A29.out).mono ?_);(case yB => exact CU zk);(case yC => exact zq.out);(case zI => exact CU HR1);(case zJ => exact Gt.out);rintro e w36 ⟨v518,rfl,ho0,hb⟩;refine ⟨_,rfl,?_⟩;have aG := yf.mk (Kd.AC ho0 (yF (bO HB)));replace aa := bB aa hb;replace af := bB af hb;replace ae := bB ae hb;replace HB := bS HB hb;clear hb;clear ho0))
   (try simp only [pz])
   go_cut [70] (fun v70 wc => ∃ (kq : Nat) (aW : Bool),v70 = .bool aW ∧ yf (yH.j2 kq l1 a2 l3 Ae AV Ez aW yj yg ym yn aj ak = some (r1,r2,r3)) ∧ yf (kq ≤ k2) ∧ yf (Kd.R (Kd.int .i64) 3 wc w.heap.size (fun _ => True) v518 Ez) ∧ yf (wc.heap[aU]? = some (.cells #[.int .i64 yj,(.slice yK yg.length yE),.int .i64 ym,.int .i64 yn] 29 (0,0))) ∧ yf (wc.heap[aM]? = some (.cells #[.int .i64 0,.int .i64 0] 51 (0,0))) ∧ yf (wc.heap[aV]? = some (.cells #[.int .i64 aj,.int .i64 ak] 51 (0,0))) ∧ yf (Below w.heap.size w wc))
   case first =>
    have H := aX.out;clear aX
    by_cases c37 : 0 ≤ AV
    ·
     rw [if_pos c37] at H;have Kk := decide_eq_true c37;clear c37
     (skip)
     by_cases Gq : AV < (l3.length : Int)
     ·
      rw [if_pos Gq] at H;have J4 := decide_eq_true Gq;clear Gq;obtain ⟨bi,aZ⟩ : ∃ b_ : Bool,b_ = (Ir false l3 AV) := ⟨_,rfl⟩
      replace H : (if bi = true then (yH.j2 k2 l1 a2 l3 Ae AV Ez true yj yg ym yn aj ak) else (if Cy = true then (yH.j2 k2 l1 a2 l3 Ae AV Ez true yj yg ym yn aj ak) else (if (Ez.length : Int) ≥ yn then (yH.j2 k2 l1 a2 l3 Ae AV Ez true yj yg ym yn aj ak) else (if Ae ≥ 0 then (yH.j2 k2 l1 a2 l3 Ae AV Ez (decide ((Ez.length : Int) ≥ Ae)) yj yg ym yn aj ak) else (yH.j2 k2 l1 a2 l3 Ae AV Ez false yj yg ym yn aj ak))))) = some (r1,r2,r3) := by rw [← aZ] at H;exact H
      have aK := yf.mk aZ;clear aZ
      by_cases c40 : bi = true
      ·
       subst c40;rw [if_pos rfl] at H;have H' := yf.mk H;clear H
       have ah : 0 ≤ (AV : Int) := of_decide_eq_true ‹_›
       have ai : AV < (l3.length : Int) := of_decide_eq_true ‹_›
       obtain ⟨aT,aC,ag⟩ := Kd.Gn HR3.out AV ah ai
       (try rw [← aK.out] at ag)
       cases aC;replace ag := cB HB ag;replace ah := eq_true ah;replace ai := eq_true ai
       go_wp2
       go_meet
       case rel => exact ⟨_,(true),(by rfl),H',⟨by have := Bn.out;have := Di.out;omega⟩,⟨kR aG⟩,⟨kk aa⟩,⟨kk af⟩,⟨kk ae⟩,⟨bO HB⟩⟩
      ·
       replace c40 := Bool.eq_false_iff.mpr c40;subst c40
       rw [if_neg (show ¬ (false = true) by decide)] at H
       by_cases Jy : Cy = true
       ·
        subst Jy;rw [if_pos rfl] at H;have H' := yf.mk H;clear H
        have ah : 0 ≤ (AV : Int) := of_decide_eq_true ‹_›
        have ai : AV < (l3.length : Int) := of_decide_eq_true ‹_›
        obtain ⟨aT,aC,ag⟩ := Kd.Gn HR3.out AV ah ai
        (try rw [← aK.out] at ag)
        cases aC;replace ag := cB HB ag;replace ah := eq_true ah;replace ai := eq_true ai
        go_wp2
        go_meet
        case rel => exact ⟨_,(true),(by rfl),H',⟨by have := Bn.out;have := Di.out;omega⟩,⟨kR aG⟩,⟨kk aa⟩,⟨kk af⟩,⟨kk ae⟩,⟨bO HB⟩⟩
       ·
        replace Jy := Bool.eq_false_iff.mpr Jy;subst Jy
        rw [if_neg (show ¬ (false = true) by decide)] at H
        by_cases Iz : (Ez.length : Int) ≥ yn
        ·
         rw [if_pos Iz] at H;have Kl := decide_eq_true Iz;clear Iz;have H' := yf.mk H;clear H
         have ah : 0 ≤ (AV : Int) := of_decide_eq_true ‹_›
         have ai : AV < (l3.length : Int) := of_decide_eq_true ‹_›
         obtain ⟨aT,aC,ag⟩ := Kd.Gn HR3.out AV ah ai
         (try rw [← aK.out] at ag)
         cases aC;replace ag := cB HB ag;replace ah := eq_true ah;replace ai := eq_true ai;obtain ⟨RD,Px,Sw⟩ := Kd.zB aG.out;subst Sw;have a4m := az.out;have a4G := aA.out;have U4 := av.out;have Uf := ax.out;have TL := AO aa;have TS := bf aa
         go_wp2
         go_meet
         case rel => exact ⟨_,(true),(by rfl),H',⟨by have := Bn.out;have := Di.out;omega⟩,⟨kR aG⟩,⟨kk aa⟩,⟨kk af⟩,⟨kk ae⟩,⟨bO HB⟩⟩
        ·
         rw [if_neg Iz] at H;have Kl := decide_eq_false Iz;clear Iz
         by_cases IR : Ae ≥ 0
         ·
          rw [if_pos IR] at H;have Km := decide_eq_true IR;clear IR;have H' := yf.mk H;clear H
          have ah : 0 ≤ (AV : Int) := of_decide_eq_true ‹_›
          have ai : AV < (l3.length : Int) := of_decide_eq_true ‹_›
          obtain ⟨aT,aC,ag⟩ := Kd.Gn HR3.out AV ah ai
          (try rw [← aK.out] at ag)
          cases aC;replace ag := cB HB ag;replace ah := eq_true ah;replace ai := eq_true ai;obtain ⟨a3j,a3E,WB⟩ := Kd.zB aG.out;subst WB;have X9 := az.out;have Xm := aA.out;have QN := av.out;have QR := ax.out;have WQ := AO aa;have WV := bf aa
          go_wp2
          go_meet
          case rel => exact ⟨_,(decide ((Ez.length : Int) ≥ Ae)),(by rfl),H',⟨by have := Bn.out;have := Di.out;omega⟩,⟨kR aG⟩,⟨kk aa⟩,⟨kk af⟩,⟨kk ae⟩,⟨bO HB⟩⟩
         ·
          rw [if_neg IR] at H;have Km := decide_eq_false IR;clear IR;have H' := yf.mk H;clear H
          have ah : 0 ≤ (AV : Int) := of_decide_eq_true ‹_›
          have ai : AV < (l3.length : Int) := of_decide_eq_true ‹_›
          obtain ⟨aT,aC,ag⟩ := Kd.Gn HR3.out AV ah ai
          (try rw [← aK.out] at ag)
          cases aC;replace ag := cB HB ag;replace ah := eq_true ah;replace ai := eq_true ai;obtain ⟨bD,a5U,a1W⟩ := Kd.zB aG.out;subst a1W;have a0z := az.out;have a0Q := aA.out;have a4n := av.out;have a4H := ax.out;have a3N := AO aa;have a4b := bf aa
          go_wp2
          go_meet
          case rel => exact ⟨_,(false),(by rfl),H',⟨by have := Bn.out;have := Di.out;omega⟩,⟨kR aG⟩,⟨kk aa⟩,⟨kk af⟩,⟨kk ae⟩,⟨bO HB⟩⟩
     ·
      rw [if_neg Gq] at H;exact absurd H (by simp)
    ·
     rw [if_neg c37] at H;exact absurd H (by simp)
   case rest =>
    clear aX FC Nz Ku NF KC;obtain ⟨kq,aW,rfl,HA,aD,ay,aa,af,ae,HB⟩ := hcut
    cases kq with
    | zero => exact absurd HA.out (by simp [yH.j2])
    | succ bg =>
     have H := HA.out;clear HA;simp only [yH.j2] at H
     by_cases YQ : aW = true
     ·
      subst YQ;rw [if_pos rfl] at H;have H' := yf.mk H;clear H
      go_wp2
      go_roundg bg
      case measure => have := Bn.out;have := Di.out;have := aD.out;omega
      case rel => exact ⟨(Ae),(wrap64 (AV + 1)),(aj),(ak),(by rfl),(by rfl),H',⟨by have := Bn.out;have := Di.out;have := aD.out;omega⟩,⟨kk aa⟩,⟨kk af⟩,⟨kk ae⟩,⟨bO HB⟩⟩
     ·
      replace YQ := Bool.eq_false_iff.mpr YQ;subst YQ
      rw [if_neg (show ¬ (false = true) by decide)] at H
      obtain ⟨Zu,bq,H⟩ := bE H
      try dsimp only at H
      have H' := yf.mk H;clear H;have a0C := az.out;have a0T := aA.out;have bX := av.out;have bZ := ax.out;have TM := AO aa;have TT := bf aa
      go_wp2_with (((with_reducible refine yz (f := 31) rfl ?_);refine gL (some 72) Tryz.func31 #[.agg #[.int .i64 yj,.slice yK yg.length yE,.int .i64 ym,.int .i64 yn]] ?_;(with_reducible refine (AY.calls yj _ _ yg ym yn Zu _ ?yB ?yC bq.out).mono ?_);(case yB => exact CU zk);(case yC => exact zq.out);rintro e w61 ⟨rfl,hb⟩;refine ⟨_,rfl,?_⟩;replace ay := CR ay hb;replace aa := bB aa hb;replace af := bB af hb;replace ae := bB ae hb;replace HB := bS HB hb;clear hb))
      go_loopg [16,17] bg (fun kq v16 v17 w' => ∃ (aH : Int) (au : Int),v16 = .int .i64 aH ∧ v17 = .int .i64 au ∧ yf (yH.l2 kq l1 a2 l3 AV Ez aH au yj yg ym yn = some (r1,r2,r3)) ∧ yf (kq ≤ bg) ∧ yf (Kd.R (Kd.int .i64) 3 w' w.heap.size (fun _ => True) v518 Ez) ∧ yf (w'.heap[aU]? = some (.cells #[.int .i64 yj,(.slice yK yg.length yE),.int .i64 ym,.int .i64 yn] 29 (0,0))) ∧ yf (w'.heap[aM]? = some (.cells #[.int .i64 0,.int .i64 0] 51 (0,0))) ∧ yf (w'.heap[aV]? = some (.cells #[.int .i64 aj,.int .i64 ak] 51 (0,0))) ∧ yf (Below w.heap.size w w'))
      case atStart => exact ⟨(Zu),(0),(by rfl),(by rfl),H',⟨Nat.le_refl _⟩,⟨kR ay⟩,⟨kk aa⟩,⟨kk af⟩,⟨kk ae⟩,⟨bO HB⟩⟩
      case round =>
       clear H' TM TT;obtain ⟨aH,au,rfl,rfl,HA,Lv,ay,aa,af,ae,HB⟩ := hrel
       cases gk with
       | zero => exact absurd HA.out (by simp [yH.l2])
       | succ k4 =>
        have H := HA.out;clear HA;simp only [yH.l2] at H
        by_cases JF : au < (Ez.length : Int)
        ·
         rw [if_pos JF] at H;have Oy := decide_eq_true JF;clear JF
         by_cases Mk : 0 ≤ au
         ·
          rw [if_pos Mk] at H;have ZY := decide_eq_true Mk;clear Mk
          by_cases c64 : (rd Ez au) = aH
          ·
           rw [if_pos c64] at H;have LK := beq_iff_eq.mpr c64
           have Wi : ((rd Ez au) != aH) = false := bne_eq_false_iff_eq.mpr c64
           clear c64;have H' := yf.mk H;clear H;obtain ⟨bF,bP,bv⟩ := Kd.zB ay.out;subst bv
           have aI : 0 ≤ (au : Int) := of_decide_eq_true ‹_›
           have aJ : au < (Ez.length : Int) := of_decide_eq_true ‹_›
           obtain ⟨bu,aY,bA⟩ := Kd.BG (Kd.zb ay.out).2.2 au aI aJ;cases aY;replace aI := eq_true aI;replace aJ := eq_true aJ
           go_wp2
           go_roundg k4
           case measure => have := Bn.out;have := Di.out;have := aD.out;have := Lv.out;omega
           case rel => exact ⟨(wrap64 (aH + 1)),(wrap64 (au + 1)),(by rfl),(by rfl),H',⟨by have := Bn.out;have := Di.out;have := aD.out;have := Lv.out;omega⟩,⟨kR ay⟩,⟨kk aa⟩,⟨kk af⟩,⟨kk ae⟩,⟨bO HB⟩⟩
          ·
           rw [if_neg c64] at H;have LK := beq_eq_false_iff_ne.mpr c64;have Wi := bne_iff_ne.mpr c64;have H' := yf.mk H;clear H;obtain ⟨Vw,UE,WC⟩ := Kd.zB ay.out;subst WC
           have aI : 0 ≤ (au : Int) := of_decide_eq_true ‹_›
           have aJ : au < (Ez.length : Int) := of_decide_eq_true ‹_›
           obtain ⟨bu,aY,bA⟩ := Kd.BG (Kd.zb ay.out).2.2 au aI aJ;cases aY;replace aI := eq_true aI;replace aJ := eq_true aJ;have a4q := ax.out;have a4K := av.out;have a4r := aQ.out;have a4L := aN.out;have a3Q := bc2 ae;have a4e := bf ae
           go_wp2
           go_roundg k4
           case measure => have := Bn.out;have := Di.out;have := aD.out;have := Lv.out;omega
           case rel => exact ⟨((Ez.length : Int)),(wrap64 (AV + 1)),(AV),(aH),(by rfl),(by rfl),H',⟨by have := Bn.out;have := Di.out;have := aD.out;have := Lv.out;omega⟩,bK aa rfl,bK af rfl,bK ae rfl,⟨bO HB⟩⟩
         ·
          rw [if_neg Mk] at H;exact absurd H (by simp)
        ·
         rw [if_neg JF] at H;have Oy := decide_eq_false JF;clear JF;have H' := yf.mk H;clear H;obtain ⟨a5E,a5X,a2b⟩ := Kd.zB ay.out;subst a2b;have a0G := ax.out;have a0X := av.out;have a4t := aQ.out;have a4N := aN.out;have bQ := bc2 ae;have bU := bf ae
         go_wp2
         go_roundg k4
         case measure => have := Bn.out;have := Di.out;have := aD.out;have := Lv.out;omega
         case rel => exact ⟨((Ez.length : Int)),(wrap64 (AV + 1)),(AV),(aH),(by rfl),(by rfl),H',⟨by have := Bn.out;have := Di.out;have := aD.out;have := Lv.out;omega⟩,bK aa rfl,bK af rfl,bK ae rfl,⟨bO HB⟩⟩
end Go.Proofs.YtjonnfmoocijlaaGreat.P
