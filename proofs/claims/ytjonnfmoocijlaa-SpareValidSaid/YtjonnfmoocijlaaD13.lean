/- Texts of a claim, packed. -/
import Derived.Test.YtjonnfmoocijlaaD2
import Derived.Test.YtjonnfmoocijlaaD4
set_option linter.all false
namespace Go.Proofs.Ytjonnfmoocijlaa.P
open Go.RowKit Go.Proofs.YtjonnfmoocijlaaKW.PrintWords Go.Proofs.YtjonnfmoocijlaaKW.PrintLast Go.Proofs.YtjonnfmoocijlaaKW.PrintMore
attribute [local go_sem] zz zA zS zT zn zo zB zC
def Cx.f (yn : Int) (yg : List (List Int)) (yo : Int) (yt : Int) (BF : Int) (Al : Int) (zY : Int) (BS : List (List Int)) (Bn : List (List Int)) (DZ : Int) (CK : Int) : Option (Int) := some (wrap64 (BF - 3))
set_option maxHeartbeats 8000000 in
set_option maxRecDepth 100000 in
theorem Cx.calls (yn : Int) (yP : Option Addr) (yI : Nat) (yg : List (List Int)) (yo : Int) (yt : Int) (BF : Int) (Al : Int) (zY : Int) (F8 : Option Addr) (EX : Nat) (BS : List (List Int)) (FC : Option Addr) (EY : Nat) (Bn : List (List Int)) (DZ : Int) (CK : Int) (r : Int) (w : World) (zR : Kd.C (Kd.slice 3 (Kd.int .i64)) w yP yg.length yg) (zU : yg.length ≤ yI) (G9 : Kd.C (Kd.slice 3 (Kd.int .i64)) w F8 BS.length BS) (Ga : BS.length ≤ EX) (Gb : Kd.C (Kd.slice 3 (Kd.int .i64)) w FC Bn.length Bn) (Gc : Bn.length ≤ EY) (h : Cx.f yn yg yo yt BF Al zY BS Bn DZ CK = some r) :
  Calls Try.prog 80 #[.agg #[.int .i64 yn, .slice yP yg.length yI, .int .i64 yo, .int .i64 yt, .int .i64 BF, .int .i64 Al, .int .i64 zY, .slice F8 BS.length EX, .slice FC Bn.length EY, .int .i64 DZ, .int .i64 CK]] w fun e w' => e = .returned (.int .i64 r) ∧ Below w.heap.size w w' := by
 have Jm := Try.underlying102;have zq := yf.mk zR;have zG := yf.mk zU;clear zR zU;have K4 := yf.mk G9;have LB := yf.mk Ga;clear G9 Ga;have K5 := yf.mk Gb;have LC := yf.mk Gc;clear Gb Gc;have HB := yf.mk (Below.refl w.heap.size w)
 have H : (some (wrap64 (BF - 3))) = some r := h
 clear h;obtain rfl := Option.some.inj H
 go_enter Try.func80, Try.ntmps80
 go_wp2_with (((with_reducible refine yK (N := 1) rfl ?_); refine yE rfl (N := 1) rfl (cs := #[.int .i64 yn, .slice yP yg.length yI, .int .i64 yo, .int .i64 yt, .int .i64 BF, .int .i64 Al, .int .i64 zY, .slice F8 BS.length EX, .slice FC Bn.length EY, .int .i64 DZ, .int .i64 CK]) (t := 102) (by go_simp) ?_; intro ag hg w2 yG hb; have aa := yf.mk (yG); have ae := bG (w := w) hg; have af := bG (w := w) hg; replace HB := bS HB hb; clear hb yG hg; have a13 := Dt aa; have a14 := bf aa))
 go_ret
 exact ⟨by rfl, bO HB⟩
mutual
def yY.j0 : Nat → Bool → Int → List (List Int) → Option (Bool)
 | 0, _, _, _ => none
 | k + 1, x34, af, ae => if x34 = true then (some false) else (yY.l0 k ae (ae.length : Int) 0 af ae)
def yY.l0 : Nat → List (List Int) → Int → Int → Int → List (List Int) → Option (Bool)
 | 0, _, _, _, _, _ => none
 | k + 1, PR, ag, x38, af, ae => if x38 < ag then (if 0 ≤ x38 then (if x38 < (PR.length : Int) then (if 0 < (ae.length : Int) then (if ((yT PR x38).length : Int) = ((yT ae 0).length : Int) then (yY.l1 k (yT PR x38) PR ag x38 (yT PR x38) ((yT PR x38).length : Int) 0 af ae) else (some false)) else (none)) else (none)) else (none)) else (some true)
def yY.l1 : Nat → List Int → List (List Int) → Int → Int → List Int → Int → Int → Int → List (List Int) → Option (Bool)
 | 0, _, _, _, _, _, _, _, _, _ => none
 | k + 1, x4, PR, ag, x38, ah, ai, aa, af, ae => if aa < ai then (if 0 ≤ aa then (if aa < (ah.length : Int) then (if (rd ah aa) < 0 then (yY.j3 k x4 PR ag x38 ah ai aa true af ae) else (if (rd ah aa) ≥ af then (yY.j3 k x4 PR ag x38 ah ai aa true af ae) else (if aa > 0 then (if 0 ≤ (wrap64 (aa - 1)) then (if (wrap64 (aa - 1)) < (x4.length : Int) then (yY.j3 k x4 PR ag x38 ah ai aa (decide ((rd x4 (wrap64 (aa - 1))) ≥ (rd ah aa))) af ae) else (none)) else (none)) else (yY.j3 k x4 PR ag x38 ah ai aa false af ae)))) else (none)) else (none)) else (yY.l0 k PR ag (wrap64 (x38 + 1)) af ae)
def yY.j3 : Nat → List Int → List (List Int) → Int → Int → List Int → Int → Int → Bool → Int → List (List Int) → Option (Bool)
 | 0, _, _, _, _, _, _, _, _, _, _ => none
 | k + 1, x4, PR, ag, x38, ah, ai, aa, aj, af, ae => if aj = true then (some false) else (yY.l1 k x4 PR ag x38 ah ai (wrap64 (aa + 1)) af ae)
end
def yY.f (k : Nat) (yn : Int) (yg : List (List Int)) : Option (Bool) := if yn < 2 then (yY.j0 k true yn yg) else (if yn > 60 then (yY.j0 k true yn yg) else (if (yg.length : Int) < 1 then (yY.j0 k true yn yg) else (if (yg.length : Int) > 4096 then (yY.j0 k true yn yg) else (if 0 < (yg.length : Int) then (yY.j0 k (decide (((yT yg 0).length : Int) < 2)) yn yg) else (none)))))
set_option maxHeartbeats 8000000 in
set_option maxRecDepth 100000 in
theorem yY.calls (k : Nat) (yn : Int) (yP : Option Addr) (yI : Nat) (yg : List (List Int)) (r : Bool) (w : World) (zR : Kd.C (Kd.slice 3 (Kd.int .i64)) w yP yg.length yg) (zU : yg.length ≤ yI) (h : yY.f k yn yg = some r) :
  Calls Try.prog 93 #[.agg #[.int .i64 yn, .slice yP yg.length yI]] w fun e w' => e = .returned (.bool r) ∧ Below w.heap.size w w' := by
 have NN := Try.underlying29;have zq := yf.mk zR;have zG := yf.mk zU;clear zR zU;have HB := yf.mk (Below.refl w.heap.size w)
 have H : (if yn < 2 then (yY.j0 k true yn yg) else (if yn > 60 then (yY.j0 k true yn yg) else (if (yg.length : Int) < 1 then (yY.j0 k true yn yg) else (if (yg.length : Int) > 4096 then (yY.j0 k true yn yg) else (if 0 < (yg.length : Int) then (yY.j0 k (decide (((yT yg 0).length : Int) < 2)) yn yg) else (none)))))) = some r := h
 clear h;have Uh := yf.mk H;clear H
 go_enter Try.func93, Try.ntmps93
 go_upto_region 1 with (((with_reducible refine yK (N := 1) rfl ?_); (try (refine BH (by rfl) ?_; dsimp only)); refine yE rfl (N := 1) rfl (cs := #[.int .i64 yn, .slice yP yg.length yI]) (t := 29) (by go_simp) ?_; intro aJ hg w3 yG hb; have ae := yf.mk (yG); have cu := bG (w := w) hg; have bY := bG (w := w) hg; replace HB := bS HB hb; clear hb yG hg))
 (try simp only [pz])
 go_cut [34] (fun v34 wc => ∃ (kq : Nat) (aK : Bool), v34 = .bool aK ∧ yf (yY.j0 kq aK yn yg = some r) ∧ yf (kq ≤ k) ∧ yf (wc.heap[aJ]? = some (.cells #[.int .i64 yn, (.slice yP yg.length yI)] 29 (0, 0))) ∧ yf (Below w.heap.size w wc))
 case first =>
  have H := Uh.out;clear Uh
  by_cases c4 : yn < 2
  ·
   rw [if_pos c4] at H;have Ex := decide_eq_true c4;clear c4
   (skip)
   have H' := yf.mk H;clear H;have WV := bc2 ae;have WW := bf ae
   go_wp2
   go_meet
   case rel => exact ⟨_, (true), (by rfl), H', ⟨by omega⟩, ⟨kk ae⟩, ⟨bO HB⟩⟩
  rw [if_neg c4] at H;have Ex := decide_eq_false c4;clear c4
  (skip)
  by_cases c6 : yn > 60
  ·
   rw [if_pos c6] at H;have EU := decide_eq_true c6;clear c6;have H' := yf.mk H;clear H;have a2Y := bc2 ae;have a2Z := bf ae
   go_wp2
   go_meet
   case rel => exact ⟨_, (true), (by rfl), H', ⟨by omega⟩, ⟨kk ae⟩, ⟨bO HB⟩⟩
  rw [if_neg c6] at H;have EU := decide_eq_false c6;clear c6
  by_cases c8 : (yg.length : Int) < 1
  ·
   rw [if_pos c8] at H;have Gl := decide_eq_true c8
   have Mq : decide (yg.length < 1) = true := decide_eq_true (by omega)
   clear c8;have H' := yf.mk H;clear H;have NW := bc2 ae;have NY := bf ae
   go_wp2
   go_meet
   case rel => exact ⟨_, (true), (by rfl), H', ⟨by omega⟩, ⟨kk ae⟩, ⟨bO HB⟩⟩
  rw [if_neg c8] at H;have Gl := decide_eq_false c8
  have Mq : decide (yg.length < 1) = false := decide_eq_false (by omega)
  clear c8
  by_cases c10 : (yg.length : Int) > 4096
  ·
   rw [if_pos c10] at H;have Fv := decide_eq_true c10
   have MR : decide (4096 < yg.length) = true := decide_eq_true (by omega)
   clear c10;have H' := yf.mk H;clear H;have Lt := bc2 ae;have Lu := bf ae
   go_wp2
   go_meet
   case rel => exact ⟨_, (true), (by rfl), H', ⟨by omega⟩, ⟨kk ae⟩, ⟨bO HB⟩⟩
  rw [if_neg c10] at H;have Fv := decide_eq_false c10
  have MR : decide (4096 < yg.length) = false := decide_eq_false (by omega)
  clear c10
  by_cases c12 : 0 < (yg.length : Int)
  rotate_left
  ·
   rw [if_neg c12] at H;exact absurd H (by simp)
  rw [if_pos c12] at H;have Jg := decide_eq_true c12
  have a15 : decide (0 < yg.length) = true := decide_eq_true (by omega)
  clear c12;have H' := yf.mk H;clear H;have MV := bc2 ae;have MW := bf ae
  have aV : 0 ≤ (0 : Int) := (by omega)
  have aQ : 0 < (yg.length : Int) := of_decide_eq_true ‹_›
  obtain ⟨bZ, bW, bV, bF, aI, bi, bg⟩ := Dw zq.out 0 aV aQ;cases bF
  have bT : (0 < yg.length) = True := eq_true (by omega)
  (try rw [show ((0 : Int)).toNat = 0 from rfl] at aI)
  (try rw [Addr.add_zero'] at aI)
  replace aI := cB HB aI;have bX := yf.mk bg;have bU := yf.mk bi;clear bg bi;replace aV := eq_true aV;replace aQ := eq_true aQ
  go_wp2
  go_meet
  case rel => exact ⟨_, (decide (((yT yg 0).length : Int) < 2)), (by rfl), H', ⟨by omega⟩, ⟨kk ae⟩, ⟨bO HB⟩⟩
 case rest =>
 clear Uh;obtain ⟨kq, aK, rfl, HA, Wm, ae, HB⟩ := hcut
 cases kq with
 | zero => exact absurd HA.out (by simp [yY.j0])
 | succ Wn =>
  have H := HA.out;clear HA;simp only [yY.j0] at H
  by_cases c14 : aK = true
  ·
   subst c14;rw [if_pos rfl] at H;obtain rfl := Option.some.inj H
   go_wp2
   go_ret
   exact ⟨by rfl, bO HB⟩
  ·
   replace c14 := Bool.eq_false_iff.mpr c14;subst c14
   rw [if_neg (show ¬ (false = true) by decide)] at H
   have H' := yf.mk H;clear H;have OW := bc2 ae;have OX := bf ae
   go_wp2
   go_loopg [38] Wn (fun kq v38 w' => ∃ (aa : Int), v38 = .int .i64 aa ∧ yf (yY.l0 kq yg (yg.length : Int) aa yn yg = some r) ∧ yf (kq ≤ Wn) ∧ yf (w'.heap[aJ]? = some (.cells #[.int .i64 yn, (.slice yP yg.length yI)] 29 (0, 0))) ∧ yf (Below w.heap.size w w'))
   case atStart => exact ⟨(0), (by rfl), H', ⟨Nat.le_refl _⟩, ⟨kk ae⟩, ⟨bO HB⟩⟩
   case round =>
    clear H' OW OX;obtain ⟨aa, rfl, HA, DU, ae, HB⟩ := hrel
    cases gk with
    | zero => exact absurd HA.out (by simp [yY.l0])
    | succ k2 =>
     have H := HA.out;clear HA;simp only [yY.l0] at H
     by_cases c16 : aa < (yg.length : Int)
     ·
      rw [if_pos c16] at H;have G8 := decide_eq_true c16;clear c16
      by_cases c17 : 0 ≤ aa
      ·
       rw [if_pos c17] at H;have MS := decide_eq_true c17;clear c17
       by_cases c18 : aa < (yg.length : Int)
       ·
        rw [if_pos c18] at H;have Ru := decide_eq_true c18;clear c18
        by_cases c19 : 0 < (yg.length : Int)
        ·
         rw [if_pos c19] at H;have OE := decide_eq_true c19
         have bR : decide (0 < yg.length) = true := decide_eq_true (by omega)
         clear c19
         by_cases c20 : ((yT yg aa).length : Int) = ((yT yg 0).length : Int)
         ·
          rw [if_pos c20] at H;have IA := beq_iff_eq.mpr c20
          have UU : (((yT yg aa).length : Int) != ((yT yg 0).length : Int)) = false := bne_eq_false_iff_eq.mpr c20
          have bu : ((yT yg aa).length == (yT yg 0).length) = true := by (simp at c20 ⊢; omega)
          clear c20;have H' := yf.mk H;clear H
          have ai : 0 ≤ (aa : Int) := of_decide_eq_true ‹_›
          have aj : aa < (yg.length : Int) := of_decide_eq_true ‹_›
          obtain ⟨ax, bA, bI, e197, av, az, aA⟩ := Dw zq.out aa ai aj;cases e197;replace av := cB HB av;have aN := yf.mk aA;have bQ := yf.mk az;clear aA az;replace ai := eq_true ai;replace aj := eq_true aj;have K8 := bc2 ae;have K9 := bf ae
          have au : 0 ≤ (0 : Int) := (by omega)
          have ak : 0 < (yg.length : Int) := of_decide_eq_true ‹_›
          obtain ⟨aW, bv, bC, aT, ag, aC, ay⟩ := Dw zq.out 0 au ak;obtain rfl : ax = aW := (by injection aT)
          have bJ : (0 < yg.length) = True := eq_true (by omega)
          (try rw [show ((0 : Int)).toNat = 0 from rfl] at ag)
          (try rw [Addr.add_zero'] at ag)
          replace ag := cB HB ag;have bM := yf.mk ay;have bH := yf.mk aC;clear ay aC;replace au := eq_true au;replace ak := eq_true ak
          go_wp2
          go_loopg [52] k2 (fun kq v52 w' => ∃ (af : Int), v52 = .int .i64 af ∧ yf (yY.l1 kq (yT yg aa) yg (yg.length : Int) aa (yT yg aa) ((yT yg aa).length : Int) af yn yg = some r) ∧ yf (kq ≤ k2) ∧ yf (w'.heap[aJ]? = some (.cells #[.int .i64 yn, (.slice (some ax) yg.length yI)] 29 (0, 0))) ∧ yf (Below w.heap.size w w'))
          case atStart => exact ⟨(0), (by rfl), H', ⟨Nat.le_refl _⟩, ⟨kk ae⟩, ⟨bO HB⟩⟩
          case round =>
           clear H' G8 MS Ru OE bR IA UU bu K8 K9 av ag ai au aj ak;obtain ⟨af, rfl, HA, FH, ae, HB⟩ := hrel
           cases gk with
           | zero => exact absurd HA.out (by simp [yY.l1])
           | succ k3 =>
            have H := HA.out;clear HA;simp only [yY.l1] at H
            by_cases Ha : af < ((yT yg aa).length : Int)
            ·
             rw [if_pos Ha] at H;have IB := decide_eq_true Ha;clear Ha
             by_cases c23 : 0 ≤ af
             ·
              rw [if_pos c23] at H;have OG := decide_eq_true c23;clear c23
              by_cases c24 : af < ((yT yg aa).length : Int)
              ·
               rw [if_pos c24] at H;have Ls := decide_eq_true c24;clear c24;have aU := yf.mk H;clear H
               have aD : 0 ≤ (af : Int) := of_decide_eq_true ‹_›
               have aG : af < ((yT yg aa).length : Int) := of_decide_eq_true ‹_›
               obtain ⟨bN, e199, aX⟩ := Kd.Bv aN.out af aD aG;cases e199;replace aX := cB HB aX;replace aD := eq_true aD;replace aG := eq_true aG
               go_upto_region 11 with (fail)
               go_cut [77] (fun v77 wc => ∃ (kq : Nat) (aH : Bool), v77 = .bool aH ∧ yf (yY.j3 kq (yT yg aa) yg (yg.length : Int) aa (yT yg aa) ((yT yg aa).length : Int) af aH yn yg = some r) ∧ yf (kq ≤ k3) ∧ yf (wc.heap[aJ]? = some (.cells #[.int .i64 yn, (.slice (some ax) yg.length yI)] 29 (0, 0))) ∧ yf (Below w.heap.size w wc))
               case first =>
                have H := aU.out;clear aU
                by_cases Oj : (rd (yT yg aa) af) < 0
                ·
                 rw [if_pos Oj] at H;have Rv := decide_eq_true Oj;clear Oj
                 (skip)
                 have H' := yf.mk H;clear H
                 go_wp2
                 go_meet
                 case rel => exact ⟨_, (true), (by rfl), H', ⟨by have := Wm.out; have := DU.out; have := FH.out; omega⟩, ⟨kk ae⟩, ⟨bO HB⟩⟩
                ·
                 rw [if_neg Oj] at H;have Rv := decide_eq_false Oj;clear Oj
                 (skip)
                 by_cases SV : (rd (yT yg aa) af) ≥ yn
                 ·
                  rw [if_pos SV] at H;have UV := decide_eq_true SV;clear SV;have H' := yf.mk H;clear H;have UW := bc2 ae;have UX := bf ae
                  go_wp2
                  go_meet
                  case rel => exact ⟨_, (true), (by rfl), H', ⟨by have := Wm.out; have := DU.out; have := FH.out; omega⟩, ⟨kk ae⟩, ⟨bO HB⟩⟩
                 ·
                  rw [if_neg SV] at H;have UV := decide_eq_false SV;clear SV
                  by_cases Ml : af > 0
                  ·
                   rw [if_pos Ml] at H;have Oz := decide_eq_true Ml;clear Ml;obtain ⟨ah, bq⟩ : ∃ j_ : Int, (wrap64 (af - 1)) = j_ := ⟨_, rfl⟩
                   replace H : (if 0 ≤ (ah) then (if (ah) < ((yT yg aa).length : Int) then (yY.j3 k3 (yT yg aa) yg (yg.length : Int) aa (yT yg aa) ((yT yg aa).length : Int) af (decide ((rd (yT yg aa) (ah)) ≥ (rd (yT yg aa) af))) yn yg) else (none)) else (none)) = some r := by (rw [bq] at H; exact H)
                   have hji30w : (IntKind.i64.wrap (af - 1)) = ah := (i64_w _).trans bq
                   by_cases c31 : 0 ≤ (ah)
                   ·
                    rw [if_pos c31] at H;have MO := decide_eq_true c31;clear c31
                    by_cases c32 : (ah) < ((yT yg aa).length : Int)
                    ·
                     rw [if_pos c32] at H;have OA := decide_eq_true c32;clear c32;have H' := yf.mk H;clear H;have OQ := bc2 ae;have OT := bf ae
                     have aM : 0 ≤ ((ah) : Int) := of_decide_eq_true ‹_›
                     have aY : (ah) < ((yT yg aa).length : Int) := of_decide_eq_true ‹_›
                     obtain ⟨bL, bP, aZ⟩ := Kd.Bv aN.out (ah) aM aY;obtain rfl : bN = bL := (by injection bP);replace aZ := cB HB aZ;replace aM := eq_true aM;replace aY := eq_true aY
                     go_wp2
                     go_meet
                     case rel => exact ⟨_, (decide ((rd (yT yg aa) (ah)) ≥ (rd (yT yg aa) af))), (by rfl), H', ⟨by have := Wm.out; have := DU.out; have := FH.out; omega⟩, ⟨kk ae⟩, ⟨bO HB⟩⟩
                    ·
                     rw [if_neg c32] at H;exact absurd H (by simp)
                   ·
                    rw [if_neg c31] at H;exact absurd H (by simp)
                  ·
                   rw [if_neg Ml] at H;have Oz := decide_eq_false Ml;clear Ml;have H' := yf.mk H;clear H;have JX := bc2 ae;have JY := bf ae
                   go_wp2
                   go_meet
                   case rel => exact ⟨_, (false), (by rfl), H', ⟨by have := Wm.out; have := DU.out; have := FH.out; omega⟩, ⟨kk ae⟩, ⟨bO HB⟩⟩
               case rest =>
                clear aU IB OG Ls aX aD aG;obtain ⟨kq, aH, rfl, HA, bn, ae, HB⟩ := hcut
                cases kq with
                | zero => exact absurd HA.out (by simp [yY.j3])
                | succ bD =>
                 have H := HA.out;clear HA;simp only [yY.j3] at H
                 by_cases KC : aH = true
                 ·
                  subst KC;rw [if_pos rfl] at H;obtain rfl := Option.some.inj H
                  go_wp2
                  go_ret
                  exact ⟨by rfl, bO HB⟩
                 ·
                  replace KC := Bool.eq_false_iff.mpr KC;subst KC
                  rw [if_neg (show ¬ (false = true) by decide)] at H
                  have H' := yf.mk H;clear H
                  go_wp2
                  go_roundg bD
                  case measure => have := Wm.out; have := DU.out; have := FH.out; have := bn.out; omega
                  case rel => exact ⟨(wrap64 (af + 1)), (by rfl), H', ⟨by have := Wm.out; have := DU.out; have := FH.out; have := bn.out; omega⟩, ⟨kk ae⟩, ⟨bO HB⟩⟩
              ·
               rw [if_neg c24] at H;exact absurd H (by simp)
             ·
              rw [if_neg c23] at H;exact absurd H (by simp)
            ·
             rw [if_neg Ha] at H;have IB := decide_eq_false Ha;clear Ha;have H' := yf.mk H;clear H
             go_wp2
             go_roundg k3
             case measure => have := Wm.out; have := DU.out; have := FH.out; omega
             case rel => exact ⟨(wrap64 (aa + 1)), (by rfl), H', ⟨by have := Wm.out; have := DU.out; have := FH.out; omega⟩, ⟨kk ae⟩, ⟨bO HB⟩⟩
         ·
          rw [if_neg c20] at H;have IA := beq_eq_false_iff_ne.mpr c20;have UU := bne_iff_ne.mpr c20
          have bu : ((yT yg aa).length == (yT yg 0).length) = false := by (simp at c20 ⊢; omega)
          obtain rfl := Option.some.inj H
          have ai : 0 ≤ (aa : Int) := of_decide_eq_true ‹_›
          have aj : aa < (yg.length : Int) := of_decide_eq_true ‹_›
          obtain ⟨ax, bA, bI, e197, av, az, aA⟩ := Dw zq.out aa ai aj;cases e197;replace av := cB HB av;have aN := yf.mk aA;have bQ := yf.mk az;clear aA az;replace ai := eq_true ai;replace aj := eq_true aj;have Rf := bc2 ae;have Rh := bf ae
          have au : 0 ≤ (0 : Int) := (by omega)
          have ak : 0 < (yg.length : Int) := of_decide_eq_true ‹_›
          obtain ⟨aW, bv, bC, aT, ag, aC, ay⟩ := Dw zq.out 0 au ak;obtain rfl : ax = aW := (by injection aT)
          have bJ : (0 < yg.length) = True := eq_true (by omega)
          (try rw [show ((0 : Int)).toNat = 0 from rfl] at ag)
          (try rw [Addr.add_zero'] at ag)
          replace ag := cB HB ag;have bM := yf.mk ay;have bH := yf.mk aC;clear ay aC;replace au := eq_true au;replace ak := eq_true ak
          go_wp2
          go_ret
          exact ⟨by rfl, bO HB⟩
        ·
         rw [if_neg c19] at H;exact absurd H (by simp)
       ·
        rw [if_neg c18] at H;exact absurd H (by simp)
      ·
       rw [if_neg c17] at H;exact absurd H (by simp)
     ·
      rw [if_neg c16] at H;have G8 := decide_eq_false c16;clear c16;obtain rfl := Option.some.inj H
      go_wp2
      go_ret
      exact ⟨by rfl, bO HB⟩
end Go.Proofs.Ytjonnfmoocijlaa.P
namespace Go.Proofs.Ytjonnfmoocijlaa.P
open Go.RowKit Go.Proofs.YtjonnfmoocijlaaKW.PrintWords
def Im (d : Int) (w : Nat) (g : List Int) : Prop := g.length = w ∧ (∀ x ∈ g, 0 ≤ x ∧ x < d) ∧ g.Pairwise (· < ·)
instance (d : Int) (w : Nat) (g : List Int) : Decidable (Im d w g) := by unfold Im; infer_instance
def AllOk (d : Int) (w : Nat) (gs : List (List Int)) : Bool := gs.all fun g => decide (Im d w g)
theorem Qn (d : Int) (w : Nat) (g : List Int) (gs : List (List Int)) : AllOk d w (g :: gs) = (decide (Im d w g) && AllOk d w gs) := rfl
def Dc (d : Int) (l : List (List Int)) : Prop := 2 ≤ d ∧ d ≤ 60 ∧ 1 ≤ l.length ∧ l.length ≤ 4096 ∧ 2 ≤ (l.getD 0 []).length ∧ AllOk d (l.getD 0 []).length l = true
instance (d : Int) (l : List (List Int)) : Decidable (Dc d l) := by unfold Dc; infer_instance
def LG (d : Int) (g : List Int) (t : Nat) : Prop := 0 ≤ g.getD t 0 ∧ g.getD t 0 < d ∧ (0 < t → g.getD (t - 1) 0 < g.getD t 0)
instance (d : Int) (g : List Int) (t : Nat) : Decidable (LG d g t) := by unfold LG; infer_instance
def From (d : Int) (g : List Int) (j : Nat) : Prop := ∀ t, t < g.length → j ≤ t → LG d g t
instance (d : Int) (g : List Int) (j : Nat) : Decidable (From d g j) := by unfold From; infer_instance
theorem From.step {d : Int} {g : List Int} {j : Nat} (h : LG d g j) : From d g j ↔ From d g (j + 1) := by
  refine ⟨fun f t h1 h2 => f t h1 (by omega), fun f t h1 h2 => ?_⟩
  rcases Nat.lt_or_ge j t with h3 | h3
  · exact f t h1 h3
  · obtain rfl : t = j := by omega
    exact h
theorem OY (d : Int) (w : Nat) (g : List Int) : Im d w g ↔ g.length = w ∧ ∀ t, t < g.length → LG d g t := by
  constructor
  · rintro ⟨h1, h2, h3⟩
    refine ⟨h1, fun t ht => ?_⟩
    rw [List.pairwise_iff_getElem] at h3
    have := h2 _ (List.getElem_mem ht)
    unfold LG
    rw [getD_at _ _ _ ht]
    refine ⟨this.1, this.2, fun h0 => ?_⟩
    rw [getD_at _ _ _ (by omega)]
    exact h3 _ _ (by omega) ht (by omega)
  · rintro ⟨h1, h2⟩
    refine ⟨h1, fun x hx => ?_, ?_⟩
    · obtain ⟨t, ht, rfl⟩ := List.getElem_of_mem hx
      have := h2 t ht
      unfold LG at this
      rw [getD_at _ _ _ ht] at this
      exact ⟨this.1, this.2.1⟩
    · rw [List.pairwise_iff_getElem]
      intro i j hi hj hij
      induction j with
      | zero => omega
      | succ j ih =>
        have h5 := (h2 (j + 1) hj).2.2 (by omega)
        rw [getD_at _ _ _ hj, getD_at _ _ _ (by omega)] at h5
        simp only [Nat.add_sub_cancel] at h5
        rcases Nat.lt_or_ge i j with h6 | h6
        · exact Int.lt_trans (ih (by omega) h6) h5
        · obtain rfl : i = j := by omega
          exact h5
theorem SX (d : Int) (L : List (List Int)) (i : Int) (g : List Int) (hg : g.length ≤ 9223372036854775807) {r : Bool} (n : Nat) : ∀ j : Nat, j ≤ g.length → g.length - j = n → Ev (fun k => yY.l0 k L (L.length : Int) (wrap64 (i + 1)) d L) r →
    Ev (fun k => yY.l1 k g L (L.length : Int) i g (g.length : Int) (j : Int) d L) (if From d g j then r else false) := by
  induction n with
  | zero =>
    intro j hj hn hr
    refine evs (fun k => by rw [yY.l1]) ?_
    refine C8 (by omega) ?_
    rw [if_pos (show From d g j from fun t h1 h2 => by omega)]
    exact hr
  | succ n ih =>
    intro j hj hn hr
    have hlt : j < g.length := by omega
    refine evs (fun k => by rw [yY.l1]) ?_
    refine AP (by omega) (AP (by omega) (AP (by omega) ?_))
    have hrd : rd g (j : Int) = g.getD j 0 := by unfold rd; rw [Int.toNat_natCast]
    have hbad : ¬ LG d g j → Ev (fun k => yY.j3 k g L (L.length : Int) i g (g.length : Int) (j : Int) true d L) (if From d g j then r else false) := by
      intro hb
      rw [if_neg (show ¬ From d g j from fun h => hb (h j hlt (Nat.le_refl _)))]
      refine evs (fun k => by rw [yY.j3]) ?_
      exact AP rfl (Ev.now _)
    have hgood : LG d g j → Ev (fun k => yY.j3 k g L (L.length : Int) i g (g.length : Int) (j : Int) false d L) (if From d g j then r else false) := by
      intro hb
      refine evs (fun k => by rw [yY.j3]) ?_
      refine C8 (by decide) ?_
      rw [ww (x := (j : Int) + 1) (by omega) (by omega)]
      have := ih (j + 1) (by omega) (by omega) hr
      rw [show (if From d g j then r else false) = (if From d g (j + 1) then r else false) from by simp only [From.step hb]]
      exact this
    rw [hrd]
    by_cases c1 : g.getD j 0 < 0
    · exact AP c1 (hbad (fun h => by unfold LG at h; omega))
    refine C8 c1 ?_
    by_cases c2 : g.getD j 0 ≥ d
    · exact AP c2 (hbad (fun h => by unfold LG at h; omega))
    refine C8 c2 ?_
    by_cases c3 : (j : Int) > 0
    · refine AP c3 ?_
      rw [ww (x := (j : Int) - 1) (by omega) (by omega)]
      refine AP (by omega) (AP (by omega) ?_)
      have h4 : rd g ((j : Int) - 1) = g.getD (j - 1) 0 := by unfold rd; congr 1; omega
      rw [h4]
      by_cases c4 : g.getD (j - 1) 0 ≥ g.getD j 0
      · rw [decide_eq_true c4]
        exact hbad (fun h => by have := h.2.2 (by omega); omega)
      · rw [decide_eq_false c4]
        exact hgood ⟨by omega, by omega, fun _ => by omega⟩
    · exact C8 c3 (hgood ⟨by omega, by omega, fun _ => by omega⟩)
theorem SY (d : Int) (L : List (List Int)) (hL : L.length ≤ 4096) (hl : ∀ g ∈ L, g.length ≤ 9223372036854775807) (n : Nat) : ∀ i : Nat, i ≤ L.length → L.length - i = n →
    Ev (fun k => yY.l0 k L (L.length : Int) (i : Int) d L) (AllOk d (L.getD 0 []).length (L.drop i)) := by
  induction n with
  | zero =>
    intro i hi hn
    refine evs (fun k => by rw [yY.l0]) ?_
    refine C8 (by omega) (GX ?_)
    rw [List.drop_of_length_le (by omega)]
    rfl
  | succ n ih =>
    intro i hi hn
    have hlt : i < L.length := by omega
    refine evs (fun k => by rw [yY.l0]) ?_
    refine AP (by omega) (AP (by omega) (AP (by omega) (AP (by omega) ?_)))
    have e1 : yT L (i : Int) = L[i] := by unfold yT; rw [Int.toNat_natCast, getD_at _ _ _ hlt]
    have e2 : yT L 0 = L.getD 0 [] := rfl
    rw [e1, e2, List.drop_eq_getElem_cons hlt, Qn]
    have hg := hl _ (List.getElem_mem hlt)
    by_cases c : (L[i].length : Int) = ((L.getD 0 []).length : Int)
    · refine AP c ?_
      have := SX d L (i : Int) L[i] hg (r := AllOk d (L.getD 0 []).length (L.drop (i + 1))) L[i].length 0 (by omega) (by omega) (by rw [w1 (n := L.length) (by omega) (by omega) (by omega)]; exact ih (i + 1) (by omega) (by omega))
      have h5 : Im d (L.getD 0 []).length L[i] ↔ From d L[i] 0 := by rw [OY]; exact ⟨fun h t h1 _ => h.2 t h1, fun h => ⟨by omega, fun t h1 => h t h1 (by omega)⟩⟩
      rw [show ((0 : Nat) : Int) = 0 from rfl] at this
      by_cases h6 : From d L[i] 0
      · rw [if_pos h6] at this
        rw [decide_eq_true (h5.2 h6), Bool.true_and]
        exact this
      · rw [if_neg h6] at this
        rw [decide_eq_false (fun h => h6 (h5.1 h)), Bool.false_and]
        exact this
    · refine C8 c (GX ?_)
      rw [decide_eq_false (fun h => c (by have := h.1; omega)), Bool.false_and]
theorem Ta (d : Int) (L : List (List Int)) (hl : ∀ g ∈ L, g.length ≤ 9223372036854775807) : Ev (fun k => yY.f k d L) (decide (Dc d L)) := by
  have hj : ∀ b : Bool, (b = true → ¬ Dc d L) → (b = false → 2 ≤ d ∧ d ≤ 60 ∧ 1 ≤ L.length ∧ L.length ≤ 4096 ∧ 2 ≤ (L.getD 0 []).length) → Ev (fun k => yY.j0 k b d L) (decide (Dc d L)) := by
    intro b h1 h2
    refine evs (fun k => by rw [yY.j0]) ?_
    cases b with
    | true => exact AP rfl (GX (by simp [h1 rfl]))
    | false =>
      refine C8 (by decide) ?_
      obtain ⟨a1, a2, a3, a4, a5⟩ := h2 rfl
      have := SY d L a4 hl L.length 0 (by omega) (by omega)
      rw [List.drop_zero] at this
      rw [show decide (Dc d L) = _ from ?_]
      exact this
      simp only [Dc, a1, a2, a3, a4, a5, true_and, Bool.decide_eq_true]
  simp only [yY.f]
  by_cases c1 : d < 2
  · exact AP c1 (hj true (fun _ h => by unfold Dc at h; omega) (by simp))
  refine C8 c1 ?_
  by_cases c2 : d > 60
  · exact AP c2 (hj true (fun _ h => by unfold Dc at h; omega) (by simp))
  refine C8 c2 ?_
  by_cases c3 : (L.length : Int) < 1
  · exact AP c3 (hj true (fun _ h => by unfold Dc at h; omega) (by simp))
  refine C8 c3 ?_
  by_cases c4 : (L.length : Int) > 4096
  · exact AP c4 (hj true (fun _ h => by unfold Dc at h; omega) (by simp))
  refine C8 c4 (AP (by omega) ?_)
  have e2 : yT L 0 = L.getD 0 [] := rfl
  rw [e2]
  by_cases c5 : ((L.getD 0 []).length : Int) < 2
  · rw [decide_eq_true c5]
    exact hj true (fun _ h => by unfold Dc at h; omega) (by simp)
  · rw [decide_eq_false c5]
    exact hj false (by simp) (fun _ => ⟨by omega, by omega, by omega, by omega, by omega⟩)
end Go.Proofs.Ytjonnfmoocijlaa.P
