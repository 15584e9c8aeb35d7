/- Texts of a claim, packed. -/
import Derived.Test.YtjonnfmoocijlaaC4
set_option linter.all false
namespace Go.Proofs.Ytjonnfmoocijlaa.P
open Go.RowKit Go.Proofs.YtjonnfmoocijlaaKW.PrintWords Go.Proofs.YtjonnfmoocijlaaKW.PrintLast Go.Proofs.YtjonnfmoocijlaaKW.PrintMore
attribute [local go_sem] zO zP Aj Ak zC zD zQ zR
mutual
def zq.l0 : Nat → List (AX) → List (AX) → Bool → Int → Int → Int → Int → Int → Option ((List (AX)))
 | 0, _, _, _, _, _, _, _, _ => none
 | k + 1, x0, x5, x6, x7, aa, ae, ag, af => if x7 < (x0.length : Int) then (if 0 ≤ x7 then (if ((yg x0 x7).f0) = aa then (zq.j1 k x0 x5 x6 x7 (((yg x0 x7).f1) == ae) aa ae ag af ((yg x0 x7).f0) ((yg x0 x7).f1) ((yg x0 x7).f2.f0) ((yg x0 x7).f2.f1)) else (zq.j1 k x0 x5 x6 x7 false aa ae ag af ((yg x0 x7).f0) ((yg x0 x7).f1) ((yg x0 x7).f2.f0) ((yg x0 x7).f2.f1))) else (none)) else (if x6 = true then (some x5) else (if x5.length < 4398046511104 then (some (x5 ++ [(⟨aa, ae, (⟨ag, af⟩ : GU)⟩ : AX)])) else (none)))
def zq.j1 : Nat → List (AX) → List (AX) → Bool → Int → Bool → Int → Int → Int → Int → Int → Int → Int → Int → Option ((List (AX)))
 | 0, _, _, _, _, _, _, _, _, _, _, _, _, _ => none
 | k + 1, x0, x5, x6, x7, x34, aa, ae, ag, af, ah, ai, aj, ak => if x34 = true then (zq.l0 k x0 x5 x6 (wrap64 (x7 + 1)) aa ae ag af) else (if x6 = true then (zq.j2 k x0 x5 x6 x7 false aa ae ag af ah ai aj ak) else (if ah > aa then (zq.j2 k x0 x5 x6 x7 true aa ae ag af ah ai aj ak) else (if ah = aa then (zq.j2 k x0 x5 x6 x7 (decide (ai > ae)) aa ae ag af ah ai aj ak) else (zq.j2 k x0 x5 x6 x7 false aa ae ag af ah ai aj ak))))
def zq.j2 : Nat → List (AX) → List (AX) → Bool → Int → Bool → Int → Int → Int → Int → Int → Int → Int → Int → Option ((List (AX)))
 | 0, _, _, _, _, _, _, _, _, _, _, _, _, _ => none
 | k + 1, x0, x5, x6, x7, x57, aa, ae, ag, af, ah, ai, aj, ak => if x57 = true then (if x5.length < 4398046511104 then ((some (x5 ++ [(⟨aa, ae, (⟨ag, af⟩ : GU)⟩ : AX)] : List (AX))).bind fun RL => (if RL.length < 4398046511104 then (zq.l0 k x0 (RL ++ [(⟨ah, ai, (⟨aj, ak⟩ : GU)⟩ : AX)]) true (wrap64 (x7 + 1)) aa ae ag af) else (none))) else (none)) else (if x5.length < 4398046511104 then (zq.l0 k x0 (x5 ++ [(⟨ah, ai, (⟨aj, ak⟩ : GU)⟩ : AX)]) x6 (wrap64 (x7 + 1)) aa ae ag af) else (none))
end
def zq.f (k : Nat) (l0 : List (AX)) (CK : Int) (CQ : Int) (F8 : Int) (Fx : Int) : Option ((List (AX))) := zq.l0 k l0 ([] : List (AX)) (F8 == (-1)) 0 CK CQ F8 Fx
set_option maxHeartbeats 8000000 in
set_option maxRecDepth 100000 in
theorem zq.calls (k : Nat) (A0 : Option Addr) (c0 : Nat) (l0 : List (AX)) (CK : Int) (CQ : Int) (F8 : Int) (Fx : Int) (r : List (AX)) (w : World) (hr0 : Kd.C CS w A0 l0.length l0) (hc0 : l0.length ≤ c0) (h : zq.f k l0 CK CQ F8 Fx = some r) :
  Calls Try.prog 47 #[.slice A0 l0.length c0, .agg #[.int .i64 CK, .int .i64 CQ, .int .i64 F8, .int .i64 Fx]] w fun e w' => ∃ GG : Value, e = .returned (GG) ∧ Kd.R CS 47 w' w.heap.size (fun _ => True) GG r ∧ Below w.heap.size w w' := by
 have LC := Try.underlying47;have Li := yf.mk hr0;have Ws := yf.mk hc0;clear hr0 hc0;have HB := yf.mk (Below.refl w.heap.size w)
 have H : (zq.l0 k l0 ([] : List (AX)) (F8 == (-1)) 0 CK CQ F8 Fx) = some r := h
 clear h;have H' := yf.mk H;clear H
 go_enter Try.func47, Try.ntmps47
 go_wp2_with (((with_reducible refine yI (N := 3) rfl ?_); refine yG rfl (N := 3) rfl (cs := #[.int .i64 CK, .int .i64 CQ, .int .i64 F8, .int .i64 Fx]) (t := 47) (by go_simp) ?_; intro af hg w3 yJ hb; have aa := yf.mk (yJ); have bv := bG (w := w) hg; have bu := bG (w := w) hg; replace HB := bS HB hb; clear hb yJ hg; have Tj := AP aa; have Tk := bf aa))
 go_loopg [5, 6, 7] k (fun kq v5 v6 v7 w' => ∃ (yN : List (AX)) (Bu : Bool) (Ag : Int), v6 = .bool Bu ∧ v7 = .int .i64 Ag ∧ yf (zq.l0 kq l0 yN Bu Ag CK CQ F8 Fx = some r) ∧ yf (kq ≤ k) ∧ yf (Kd.R CS 47 w' w.heap.size (fun k_ => k_ ≠ af) v5 yN) ∧ yf (w'.heap[af]? = some (.cells #[.int .i64 CK, .int .i64 CQ, .int .i64 F8, .int .i64 Fx] 47 (0, 0))) ∧ yf (Below w.heap.size w w'))
 case atStart => exact ⟨(([] : List (AX))), ((F8 == (-1))), (0), (by rfl), (by rfl), H', ⟨Nat.le_refl _⟩, ⟨by exact Kd.Er _ _ _ _ _⟩, ⟨kk aa⟩, ⟨bO HB⟩⟩
 case round =>
 clear H' Tj Tk;obtain ⟨yN, Bu, Ag, rfl, rfl, HA, BJ, Bw, aa, HB⟩ := hrel
 cases gk with
 | zero => exact absurd HA.out (by simp [zq.l0])
 | succ k1 =>
 have H := HA.out;clear HA;simp only [zq.l0] at H
 by_cases c5 : Ag < (l0.length : Int)
 rotate_left
 ·
  rw [if_neg c5] at H;have FE := decide_eq_false c5;clear c5
  by_cases M5 : Bu = true
  ·
   subst M5;rw [if_pos rfl] at H;obtain rfl := Option.some.inj H
   go_wp2
   go_ret
   exact ⟨_, by rfl, by (with_reducible repeat (apply Kd.yZ)); exact Kd.yX Bw.out (fun _ hk => trivial), bO HB⟩
  replace M5 := Bool.eq_false_iff.mpr M5;subst M5
  rw [if_neg (show ¬ (false = true) by decide)] at H
  by_cases Ot : yN.length < 4398046511104
  rotate_left
  ·
   rw [if_neg Ot] at H;exact absurd H (by simp)
  rw [if_pos Ot] at H;have bg := yf.mk Ot;clear Ot;obtain ⟨bn, aA⟩ : ∃ y_ : List (AX), y_ = (yN ++ [(⟨CK, CQ, (⟨F8, Fx⟩ : GU)⟩ : AX)]) := ⟨_, rfl⟩
  replace H : (some bn) = some r := by (rw [aA]; with_reducible exact H)
  have bi := yf.mk aA;clear aA;obtain rfl := Option.some.inj H;have QX := AP aa;have QY := bf aa
  go_wp2_with (((with_reducible refine BH (b := .append) (xs := #[.tmp 68, .tmp 70]) rfl ?_); at_builtin; refine Kd.El CS (w0 := w) w.heap.size rfl (.tmp 68) (.tmp 70) 33 47 (.agg #[(.int .i64 0), (.int .i64 0), (.int .i64 0), (.int .i64 0)]) 32 rfl Try.underlying33 GY rfl (by decide) (by omega) u5 yN (⟨CK, CQ, (⟨F8, Fx⟩ : GU)⟩ : AX) [.int .i64 CK, .int .i64 CQ, .int .i64 F8, .int .i64 Fx] (fun k_ => k_ ≠ af) (fun _ => False) rfl rfl ?aP (fun _ hk => hk.elim) ?aF ?aO ?aB ?aS ?aL ?_; (case aP => exact GL _ _ _ (⟨CK, CQ, (⟨F8, Fx⟩ : GU)⟩ : AX)); (case aB => exact (bO HB)); (case aF => exact (fun k_ hk => Kd.Bj (g := af) (o := .cells #[.int .i64 CK, .int .i64 CQ, .int .i64 F8, .int .i64 Fx] 47 (0, 0)) (kk aa) k_ hk)); (case aO => exact (kR Bw)); (case aS => exact (yL (bO HB))); (case aL => have := bg.out; omega); intro v561 w47 ho hb hg hat; rw [← bi.out] at ho; have BL := yf.mk (zY (g := af) (o := .cells #[.int .i64 CK, .int .i64 CQ, .int .i64 F8, .int .i64 Fx] 47 (0, 0)) (kk aa) hg (Kd.Ff Bw.out (fun _ hk => hk))); have BN := yf.mk (hb); have BX := yf.mk (ho); clear aa; clear HB; clear Bw; have aa := BL; have HB := BN; have aY := BX; clear BL BN BX; clear ho hb hg hat))
  go_ret
  exact ⟨_, by rfl, by (with_reducible repeat (apply Kd.yZ)); exact Kd.yX aY.out (fun _ hk => trivial), bO HB⟩
 rw [if_pos c5] at H;have FE := decide_eq_true c5;clear c5
 by_cases c6 : 0 ≤ Ag
 rotate_left
 ·
  rw [if_neg c6] at H;exact absurd H (by simp)
 rw [if_pos c6] at H;have EJ := decide_eq_true c6;clear c6;have Xp := yf.mk H;clear H
 have ak : 0 ≤ (Ag : Int) := of_decide_eq_true ‹_›
 have av : Ag < (l0.length : Int) := of_decide_eq_true ‹_›
 obtain ⟨bC, aU, aC, aH, aI, aD⟩ := BU Li.out Ag ak av;cases aU;replace aC := cB HB aC;replace aH := cB HB aH;replace aI := cB HB aI;replace aD := cB HB aD;replace ak := eq_true ak;replace av := eq_true av
 go_upto_region 7 with (((with_reducible refine yI (N := 8) rfl ?_); refine yG rfl (N := 8) rfl (cs := #[.int .i64 0, .int .i64 0, .int .i64 0, .int .i64 0]) (t := 47) (by go_simp) ?_; intro ag hg w8 yJ hb; have ae := yf.mk (yJ); have bq := bG (w := w) hg; have bD := bG (w := w) hg; have ah := Co aa hg; have ai := Ar aa hg; replace Bw := yf.mk (Kd.CP (Kd.Ib (kR Bw) ag (Nat.le_of_eq hg.symm)) hb); replace aa := bB aa hb; replace HB := bS HB hb; clear hb yJ hg; have a5G := ai.out; have a5H := ah.out; have KW := AP ae; have KX := bf ae))
 (try simp only [pz])
 go_cut [34] (fun v34 wc => ∃ (kq : Nat) (aj : Bool), v34 = .bool aj ∧ yf (zq.j1 kq l0 yN Bu Ag aj CK CQ F8 Fx ((yg l0 Ag).f0) ((yg l0 Ag).f1) ((yg l0 Ag).f2.f0) ((yg l0 Ag).f2.f1) = some r) ∧ yf (kq ≤ k1) ∧ yf (Kd.R CS 47 wc w.heap.size (fun k_ => k_ ≠ af ∧ k_ ≠ ag) u5 yN) ∧ yf (wc.heap[af]? = some (.cells #[.int .i64 CK, .int .i64 CQ, .int .i64 F8, .int .i64 Fx] 47 (0, 0))) ∧ yf (wc.heap[ag]? = some (.cells #[.int .i64 ((yg l0 Ag).f0), .int .i64 ((yg l0 Ag).f1), .int .i64 ((yg l0 Ag).f2.f0), .int .i64 ((yg l0 Ag).f2.f1)] 47 (0, 0))) ∧ yf (Below w.heap.size w wc))
 case first =>
  have H := Xp.out;clear Xp
  by_cases c11 : ((yg l0 Ag).f0) = CK
  ·
   rw [if_pos c11] at H;have GD := beq_iff_eq.mpr c11
   have Uc : (((yg l0 Ag).f0) != CK) = false := bne_eq_false_iff_eq.mpr c11
   clear c11
   (skip)
   have H' := yf.mk H;clear H;have Y2 := ai.out;have Y3 := ah.out;have Np := AP ae;have Nq := bf ae;have IV := AP aa;have IW := bf aa
   go_wp2
   go_meet
   case rel => exact ⟨_, ((((yg l0 Ag).f1) == CQ)), (by rfl), H', ⟨by have := BJ.out; omega⟩, ⟨by (with_reducible repeat (apply Kd.yZ)); exact Kd.yX (F4 (g := ag) (Kd.yX Bw.out (fun k_ hk => (⟨hk, hk.2⟩ : _ ∧ k_ ≠ ag))) (fun _ hk => hk.2)) (fun _ hk => ⟨hk.1.1, hk.1.2⟩)⟩, bK aa rfl, bK ae rfl, ⟨bO HB⟩⟩
  rw [if_neg c11] at H;have GD := beq_eq_false_iff_ne.mpr c11;have Uc := bne_iff_ne.mpr c11
  (skip)
  have H' := yf.mk H;clear H;have WR := ai.out;have WS := ah.out;have KO := AP ae;have KP := bf ae;have NP := AP aa;have NQ := bf aa
  go_wp2
  go_meet
  case rel => exact ⟨_, (false), (by rfl), H', ⟨by have := BJ.out; omega⟩, ⟨by (with_reducible repeat (apply Kd.yZ)); exact Kd.yX (F4 (g := ag) (Kd.yX Bw.out (fun k_ hk => (⟨hk, hk.2⟩ : _ ∧ k_ ≠ ag))) (fun _ hk => hk.2)) (fun _ hk => ⟨hk.1.1, hk.1.2⟩)⟩, bK aa rfl, bK ae rfl, ⟨bO HB⟩⟩
 case rest =>
 clear Xp FE EJ KW KX aC aH aI aD ak av;obtain ⟨kq, aj, rfl, HA, Qv, Bw, aa, ae, HB⟩ := hcut
 cases kq with
 | zero => exact absurd HA.out (by simp [zq.j1])
 | succ Vk =>
  have H := HA.out;clear HA;simp only [zq.j1] at H
  by_cases c18 : aj = true
  ·
   subst c18;rw [if_pos rfl] at H;have H' := yf.mk H;clear H
   go_wp2
   go_roundg Vk
   case measure => have := BJ.out; have := Qv.out; omega
   case rel => exact ⟨(yN), (Bu), (wrap64 (Ag + 1)), (by rfl), (by rfl), H', ⟨by have := BJ.out; have := Qv.out; omega⟩, ⟨by (with_reducible repeat (apply Kd.yZ)); exact Kd.yX Bw.out (fun _ hk => hk.1)⟩, ⟨kk aa⟩, ⟨bO HB⟩⟩
  ·
   replace c18 := Bool.eq_false_iff.mpr c18;subst c18
   rw [if_neg (show ¬ (false = true) by decide)] at H
   have Nf := yf.mk H;clear H
   go_upto_region 8 with (fail)
   go_cut [57] (fun v57 wc => ∃ (kq : Nat) (ax : Bool), v57 = .bool ax ∧ yf (zq.j2 kq l0 yN Bu Ag ax CK CQ F8 Fx ((yg l0 Ag).f0) ((yg l0 Ag).f1) ((yg l0 Ag).f2.f0) ((yg l0 Ag).f2.f1) = some r) ∧ yf (kq ≤ Vk) ∧ yf (Kd.R CS 47 wc w.heap.size (fun k_ => k_ ≠ af ∧ k_ ≠ ag) u5 yN) ∧ yf (wc.heap[af]? = some (.cells #[.int .i64 CK, .int .i64 CQ, .int .i64 F8, .int .i64 Fx] 47 (0, 0))) ∧ yf (wc.heap[ag]? = some (.cells #[.int .i64 ((yg l0 Ag).f0), .int .i64 ((yg l0 Ag).f1), .int .i64 ((yg l0 Ag).f2.f0), .int .i64 ((yg l0 Ag).f2.f1)] 47 (0, 0))) ∧ yf (Below w.heap.size w wc))
   case first =>
    have H := Nf.out;clear Nf
    by_cases c20 : Bu = true
    ·
     subst c20;rw [if_pos rfl] at H;have H' := yf.mk H;clear H
     go_wp2
     go_meet
     case rel => exact ⟨_, (false), (by rfl), H', ⟨by have := BJ.out; have := Qv.out; omega⟩, ⟨kR Bw⟩, ⟨kk aa⟩, ⟨kk ae⟩, ⟨bO HB⟩⟩
    ·
     replace c20 := Bool.eq_false_iff.mpr c20;subst c20
     rw [if_neg (show ¬ (false = true) by decide)] at H
     by_cases c21 : ((yg l0 Ag).f0) > CK
     ·
      rw [if_pos c21] at H;have QL := decide_eq_true c21;clear c21
      (skip)
      have H' := yf.mk H;clear H;have bF := ai.out;have bA := ah.out;have Ro := AP ae;have Rp := bf ae;have NK := AP aa;have NL := bf aa
      go_wp2
      go_meet
      case rel => exact ⟨_, (true), (by rfl), H', ⟨by have := BJ.out; have := Qv.out; omega⟩, ⟨kR Bw⟩, ⟨kk aa⟩, ⟨kk ae⟩, ⟨bO HB⟩⟩
     ·
      rw [if_neg c21] at H;have QL := decide_eq_false c21;clear c21
      (skip)
      by_cases M8 : ((yg l0 Ag).f0) = CK
      ·
       rw [if_pos M8] at H;have OV := beq_iff_eq.mpr M8
       have a05 : (((yg l0 Ag).f0) != CK) = false := bne_eq_false_iff_eq.mpr M8
       clear M8;have H' := yf.mk H;clear H;have Um := ai.out;have Un := ah.out;have Md := AP ae;have Me := bf ae;have Ra := AP aa;have Rb := bf aa
       go_wp2
       go_meet
       case rel => exact ⟨_, (decide (((yg l0 Ag).f1) > CQ)), (by rfl), H', ⟨by have := BJ.out; have := Qv.out; omega⟩, ⟨kR Bw⟩, ⟨kk aa⟩, ⟨kk ae⟩, ⟨bO HB⟩⟩
      ·
       rw [if_neg M8] at H;have OV := beq_eq_false_iff_ne.mpr M8;have a05 := bne_iff_ne.mpr M8;have H' := yf.mk H;clear H;have Ri := ai.out;have Rj := ah.out;have RN := AP ae;have RO := bf ae;have Pb := AP aa;have Pd := bf aa
       go_wp2
       go_meet
       case rel => exact ⟨_, (false), (by rfl), H', ⟨by have := BJ.out; have := Qv.out; omega⟩, ⟨kR Bw⟩, ⟨kk aa⟩, ⟨kk ae⟩, ⟨bO HB⟩⟩
   case rest =>
    clear Nf;obtain ⟨kq, ax, rfl, HA, Hd, Bw, aa, ae, HB⟩ := hcut
    cases kq with
    | zero => exact absurd HA.out (by simp [zq.j2])
    | succ ME =>
     have H := HA.out;clear HA;simp only [zq.j2] at H
     by_cases c32 : ax = true
     ·
      subst c32;rw [if_pos rfl] at H
      by_cases Wn : yN.length < 4398046511104
      ·
       rw [if_pos Wn] at H;have aN := yf.mk Wn;clear Wn;obtain ⟨RL, ay⟩ : ∃ y_ : List (AX), y_ = (yN ++ [(⟨CK, CQ, (⟨F8, Fx⟩ : GU)⟩ : AX)]) := ⟨_, rfl⟩
       replace H : (if RL.length < 4398046511104 then (zq.l0 ME l0 (RL ++ [(⟨((yg l0 Ag).f0), ((yg l0 Ag).f1), (⟨((yg l0 Ag).f2.f0), ((yg l0 Ag).f2.f1)⟩ : GU)⟩ : AX)]) true (wrap64 (Ag + 1)) CK CQ F8 Fx) else (none)) = some r := by (have H2_ := (Option.bind_some _ _).symm.trans H; rw [ay]; with_reducible exact H2_)
       have aW := yf.mk ay;clear ay
       by_cases c34 : RL.length < 4398046511104
       ·
        rw [if_pos c34] at H;have aM := yf.mk c34;clear c34;obtain ⟨aK, az⟩ : ∃ y_ : List (AX), y_ = (RL ++ [(⟨((yg l0 Ag).f0), ((yg l0 Ag).f1), (⟨((yg l0 Ag).f2.f0), ((yg l0 Ag).f2.f1)⟩ : GU)⟩ : AX)]) := ⟨_, rfl⟩
        replace H : (zq.l0 ME l0 aK true (wrap64 (Ag + 1)) CK CQ F8 Fx) = some r := by (rw [az]; with_reducible exact H)
        have aT := yf.mk az;clear az;have H' := yf.mk H;clear H;have XC := ah.out;have XD := ai.out;have QH := AP aa;have QI := bf aa
        go_wp2_with (first | ((with_reducible refine BH (b := .append) (xs := #[.tmp 58, .tmp 60]) rfl ?_); at_builtin; refine Kd.El CS (w0 := w) w.heap.size rfl (.tmp 58) (.tmp 60) 33 47 (.agg #[(.int .i64 0), (.int .i64 0), (.int .i64 0), (.int .i64 0)]) 32 rfl Try.underlying33 GY rfl (by decide) (by omega) u5 yN (⟨CK, CQ, (⟨F8, Fx⟩ : GU)⟩ : AX) [.int .i64 CK, .int .i64 CQ, .int .i64 F8, .int .i64 Fx] (fun k_ => k_ ≠ af ∧ k_ ≠ ag) (fun _ => False) rfl rfl ?aP (fun _ hk => hk.elim) ?aF ?aO ?aB ?aS ?aL ?_; (case aP => exact GL _ _ _ (⟨CK, CQ, (⟨F8, Fx⟩ : GU)⟩ : AX)); (case aB => exact (bO HB)); (case aF => exact (fun k_ hk => ⟨Kd.Bj (g := af) (o := .cells #[.int .i64 CK, .int .i64 CQ, .int .i64 F8, .int .i64 Fx] 47 (0, 0)) (kk aa) k_ hk, Kd.Bj (g := ag) (o := .cells #[.int .i64 ((yg l0 Ag).f0), .int .i64 ((yg l0 Ag).f1), .int .i64 ((yg l0 Ag).f2.f0), .int .i64 ((yg l0 Ag).f2.f1)] 47 (0, 0)) (kk ae) k_ hk⟩)); (case aO => exact (kR Bw)); (case aS => exact (yL (bO HB))); (case aL => have := aN.out; omega); intro v552 w37 ho hb hg hat; rw [← aW.out] at ho; have BL := yf.mk (zY (g := af) (o := .cells #[.int .i64 CK, .int .i64 CQ, .int .i64 F8, .int .i64 Fx] 47 (0, 0)) (kk aa) hg (Kd.Ff Bw.out (fun _ hk => hk.1))); have BN := yf.mk (zY (g := ag) (o := .cells #[.int .i64 ((yg l0 Ag).f0), .int .i64 ((yg l0 Ag).f1), .int .i64 ((yg l0 Ag).f2.f0), .int .i64 ((yg l0 Ag).f2.f1)] 47 (0, 0)) (kk ae) hg (Kd.Ff Bw.out (fun _ hk => hk.2))); have BX := yf.mk (hb); have Cr := yf.mk (ho); clear aa; clear ae; clear HB; clear Bw; have aa := BL; have ae := BN; have HB := BX; have au := Cr; clear BL BN BX Cr; clear ho hb hg hat; have a0K := AP ae; have a0L := bf ae) | ((with_reducible refine BH (b := .append) (xs := #[.tmp 62, .tmp 64]) rfl ?_); at_builtin; refine Kd.El CS (w0 := w) w.heap.size rfl (.tmp 62) (.tmp 64) 33 47 (.agg #[(.int .i64 0), (.int .i64 0), (.int .i64 0), (.int .i64 0)]) 32 rfl Try.underlying33 GY rfl (by decide) (by omega) v552 RL (⟨((yg l0 Ag).f0), ((yg l0 Ag).f1), (⟨((yg l0 Ag).f2.f0), ((yg l0 Ag).f2.f1)⟩ : GU)⟩ : AX) [.int .i64 ((yg l0 Ag).f0), .int .i64 ((yg l0 Ag).f1), .int .i64 ((yg l0 Ag).f2.f0), .int .i64 ((yg l0 Ag).f2.f1)] (fun k_ => k_ ≠ af ∧ k_ ≠ ag) (fun _ => False) rfl rfl ?aP (fun _ hk => hk.elim) ?aF ?aO ?aB ?aS ?aL ?_; (case aP => exact GL _ _ _ (⟨((yg l0 Ag).f0), ((yg l0 Ag).f1), (⟨((yg l0 Ag).f2.f0), ((yg l0 Ag).f2.f1)⟩ : GU)⟩ : AX)); (case aB => exact (bO HB)); (case aF => exact (fun k_ hk => ⟨Kd.Bj (g := af) (o := .cells #[.int .i64 CK, .int .i64 CQ, .int .i64 F8, .int .i64 Fx] 47 (0, 0)) (kk aa) k_ hk, Kd.Bj (g := ag) (o := .cells #[.int .i64 ((yg l0 Ag).f0), .int .i64 ((yg l0 Ag).f1), .int .i64 ((yg l0 Ag).f2.f0), .int .i64 ((yg l0 Ag).f2.f1)] 47 (0, 0)) (kk ae) k_ hk⟩)); (case aO => exact (kR au)); (case aS => exact (yL (bO HB))); (case aL => have := aM.out; omega); intro v555 w39 ho hb hg hat; rw [← aT.out] at ho; have BL := yf.mk (zY (g := af) (o := .cells #[.int .i64 CK, .int .i64 CQ, .int .i64 F8, .int .i64 Fx] 47 (0, 0)) (kk aa) hg (Kd.Ff au.out (fun _ hk => hk.1))); have BN := yf.mk (zY (g := ag) (o := .cells #[.int .i64 ((yg l0 Ag).f0), .int .i64 ((yg l0 Ag).f1), .int .i64 ((yg l0 Ag).f2.f0), .int .i64 ((yg l0 Ag).f2.f1)] 47 (0, 0)) (kk ae) hg (Kd.Ff au.out (fun _ hk => hk.2))); have BX := yf.mk (hb); have Cr := yf.mk (ho); clear aa; clear ae; clear HB; clear au; have aa := BL; have ae := BN; have HB := BX; have aV := Cr; clear BL BN BX Cr; clear ho hb hg hat))
        go_roundg ME
        case measure => have := BJ.out; have := Qv.out; have := Hd.out; omega
        case rel => exact ⟨(aK), (true), (wrap64 (Ag + 1)), (by rfl), (by rfl), H', ⟨by have := BJ.out; have := Qv.out; have := Hd.out; omega⟩, ⟨by (with_reducible repeat (apply Kd.yZ)); exact Kd.yX aV.out (fun _ hk => hk.1)⟩, ⟨kk aa⟩, ⟨bO HB⟩⟩
       ·
        rw [if_neg c34] at H;exact absurd H (by simp)
      ·
       rw [if_neg Wn] at H;exact absurd H (by simp)
     ·
      replace c32 := Bool.eq_false_iff.mpr c32;subst c32
      rw [if_neg (show ¬ (false = true) by decide)] at H
      by_cases c40 : yN.length < 4398046511104
      ·
       rw [if_pos c40] at H;have aZ := yf.mk c40;clear c40;obtain ⟨aJ, aG⟩ : ∃ y_ : List (AX), y_ = (yN ++ [(⟨((yg l0 Ag).f0), ((yg l0 Ag).f1), (⟨((yg l0 Ag).f2.f0), ((yg l0 Ag).f2.f1)⟩ : GU)⟩ : AX)]) := ⟨_, rfl⟩
       replace H : (zq.l0 ME l0 aJ Bu (wrap64 (Ag + 1)) CK CQ F8 Fx) = some r := by (rw [aG]; with_reducible exact H)
       have aQ := yf.mk aG;clear aG;have H' := yf.mk H;clear H;have a0I := ai.out;have a0J := ah.out;have Po := AP ae;have Pp := bf ae
       go_wp2_with (((with_reducible refine BH (b := .append) (xs := #[.tmp 62, .tmp 64]) rfl ?_); at_builtin; refine Kd.El CS (w0 := w) w.heap.size rfl (.tmp 62) (.tmp 64) 33 47 (.agg #[(.int .i64 0), (.int .i64 0), (.int .i64 0), (.int .i64 0)]) 32 rfl Try.underlying33 GY rfl (by decide) (by omega) u5 yN (⟨((yg l0 Ag).f0), ((yg l0 Ag).f1), (⟨((yg l0 Ag).f2.f0), ((yg l0 Ag).f2.f1)⟩ : GU)⟩ : AX) [.int .i64 ((yg l0 Ag).f0), .int .i64 ((yg l0 Ag).f1), .int .i64 ((yg l0 Ag).f2.f0), .int .i64 ((yg l0 Ag).f2.f1)] (fun k_ => k_ ≠ af ∧ k_ ≠ ag) (fun _ => False) rfl rfl ?aP (fun _ hk => hk.elim) ?aF ?aO ?aB ?aS ?aL ?_; (case aP => exact GL _ _ _ (⟨((yg l0 Ag).f0), ((yg l0 Ag).f1), (⟨((yg l0 Ag).f2.f0), ((yg l0 Ag).f2.f1)⟩ : GU)⟩ : AX)); (case aB => exact (bO HB)); (case aF => exact (fun k_ hk => ⟨Kd.Bj (g := af) (o := .cells #[.int .i64 CK, .int .i64 CQ, .int .i64 F8, .int .i64 Fx] 47 (0, 0)) (kk aa) k_ hk, Kd.Bj (g := ag) (o := .cells #[.int .i64 ((yg l0 Ag).f0), .int .i64 ((yg l0 Ag).f1), .int .i64 ((yg l0 Ag).f2.f0), .int .i64 ((yg l0 Ag).f2.f1)] 47 (0, 0)) (kk ae) k_ hk⟩)); (case aO => exact (kR Bw)); (case aS => exact (yL (bO HB))); (case aL => have := aZ.out; omega); intro v558 w43 ho hb hg hat; rw [← aQ.out] at ho; have BL := yf.mk (zY (g := af) (o := .cells #[.int .i64 CK, .int .i64 CQ, .int .i64 F8, .int .i64 Fx] 47 (0, 0)) (kk aa) hg (Kd.Ff Bw.out (fun _ hk => hk.1))); have BN := yf.mk (zY (g := ag) (o := .cells #[.int .i64 ((yg l0 Ag).f0), .int .i64 ((yg l0 Ag).f1), .int .i64 ((yg l0 Ag).f2.f0), .int .i64 ((yg l0 Ag).f2.f1)] 47 (0, 0)) (kk ae) hg (Kd.Ff Bw.out (fun _ hk => hk.2))); have BX := yf.mk (hb); have Cr := yf.mk (ho); clear aa; clear ae; clear HB; clear Bw; have aa := BL; have ae := BN; have HB := BX; have aX := Cr; clear BL BN BX Cr; clear ho hb hg hat))
       go_roundg ME
       case measure => have := BJ.out; have := Qv.out; have := Hd.out; omega
       case rel => exact ⟨(aJ), (Bu), (wrap64 (Ag + 1)), (by rfl), (by rfl), H', ⟨by have := BJ.out; have := Qv.out; have := Hd.out; omega⟩, ⟨by (with_reducible repeat (apply Kd.yZ)); exact Kd.yX aX.out (fun _ hk => hk.1)⟩, ⟨kk aa⟩, ⟨bO HB⟩⟩
      ·
       rw [if_neg c40] at H;exact absurd H (by simp)
end Go.Proofs.Ytjonnfmoocijlaa.P
