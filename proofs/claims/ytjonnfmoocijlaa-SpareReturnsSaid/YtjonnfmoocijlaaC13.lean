/- Texts of a claim, packed. -/
import Derived.Test.YtjonnfmoocijlaaC2
import Derived.Test.YtjonnfmoocijlaaC4
set_option linter.all false
namespace Go.Proofs.Ytjonnfmoocijlaa.P
open Go.RowKit Go.Proofs.YtjonnfmoocijlaaKW.PrintWords Go.Proofs.YtjonnfmoocijlaaKW.PrintLast Go.Proofs.YtjonnfmoocijlaaKW.PrintMore
attribute [local go_sem] zO zP Aj Ak zC zD zQ zR
def Dc.f (yn : Int) (yh : List (List Int)) (yo : Int) (yu : Int) (DK : Int) (BB : Int) (AY : Int) (CX : List (List Int)) (Ez : List (List Int)) (FO : Int) (Em : Int) : Option (Int) := some (wrap64 (DK - 3))
set_option maxHeartbeats 8000000 in
set_option maxRecDepth 100000 in
theorem Dc.calls (yn : Int) (yQ : Option Addr) (yM : Nat) (yh : List (List Int)) (yo : Int) (yu : Int) (DK : Int) (BB : Int) (AY : Int) (II : Option Addr) (Ii : Nat) (CX : List (List Int)) (Ij : Option Addr) (Ik : Nat) (Ez : List (List Int)) (FO : Int) (Em : Int) (r : Int) (w : World) (Ah : Kd.C (Kd.slice 3 (Kd.int .i64)) w yQ yh.length yh) (Ai : yh.length ≤ yM) (Jg : Kd.C (Kd.slice 3 (Kd.int .i64)) w II CX.length CX) (Jh : CX.length ≤ Ii) (Ji : Kd.C (Kd.slice 3 (Kd.int .i64)) w Ij Ez.length Ez) (Jj : Ez.length ≤ Ik) (h : Dc.f yn yh yo yu DK BB AY CX Ez FO Em = some r) :
  Calls Try.prog 80 #[.agg #[.int .i64 yn, .slice yQ yh.length yM, .int .i64 yo, .int .i64 yu, .int .i64 DK, .int .i64 BB, .int .i64 AY, .slice II CX.length Ii, .slice Ij Ez.length Ik, .int .i64 FO, .int .i64 Em]] w fun e w' => e = .returned (.int .i64 r) ∧ Below w.heap.size w w' := by
 have Nu := Try.underlying102;have zA := yf.mk Ah;have zK := yf.mk Ai;clear Ah Ai;have Nv := yf.mk Jg;have Pe := yf.mk Jh;clear Jg Jh;have Pf := yf.mk Ji;have Pg := yf.mk Jj;clear Ji Jj;have HB := yf.mk (Below.refl w.heap.size w)
 have H : (some (wrap64 (DK - 3))) = some r := h
 clear h;obtain rfl := Option.some.inj H
 go_enter Try.func80, Try.ntmps80
 go_wp2_with (((with_reducible refine yI (N := 1) rfl ?_); refine yG rfl (N := 1) rfl (cs := #[.int .i64 yn, .slice yQ yh.length yM, .int .i64 yo, .int .i64 yu, .int .i64 DK, .int .i64 BB, .int .i64 AY, .slice II CX.length Ii, .slice Ij Ez.length Ik, .int .i64 FO, .int .i64 Em]) (t := 102) (by go_simp) ?_; intro af hg w2 yJ hb; have aa := yf.mk (yJ); have ae := bG (w := w) hg; have ag := bG (w := w) hg; replace HB := bS HB hb; clear hb yJ hg; have a4E := EW aa; have a4F := bf aa))
 go_ret
 exact ⟨by rfl, bO HB⟩
mutual
def zg.j0 : Nat → Bool → Int → List (List Int) → Option (Bool)
 | 0, _, _, _ => none
 | k + 1, x34, af, ae => if x34 = true then (some false) else (zg.l0 k ae (ae.length : Int) 0 af ae)
def zg.l0 : Nat → List (List Int) → Int → Int → Int → List (List Int) → Option (Bool)
 | 0, _, _, _, _, _ => none
 | k + 1, Sw, ah, x38, af, ae => if x38 < ah then (if 0 ≤ x38 then (if x38 < (Sw.length : Int) then (if 0 < (ae.length : Int) then (if ((zt Sw x38).length : Int) = ((zt ae 0).length : Int) then (zg.l1 k (zt Sw x38) Sw ah x38 (zt Sw x38) ((zt Sw x38).length : Int) 0 af ae) else (some false)) else (none)) else (none)) else (none)) else (some true)
def zg.l1 : Nat → List Int → List (List Int) → Int → Int → List Int → Int → Int → Int → List (List Int) → Option (Bool)
 | 0, _, _, _, _, _, _, _, _, _ => none
 | k + 1, x4, Sw, ah, x38, ag, ai, aa, af, ae => if aa < ai then (if 0 ≤ aa then (if aa < (ag.length : Int) then (if (rd ag aa) < 0 then (zg.j3 k x4 Sw ah x38 ag ai aa true af ae) else (if (rd ag aa) ≥ af then (zg.j3 k x4 Sw ah x38 ag ai aa true af ae) else (if aa > 0 then (if 0 ≤ (wrap64 (aa - 1)) then (if (wrap64 (aa - 1)) < (x4.length : Int) then (zg.j3 k x4 Sw ah x38 ag ai aa (decide ((rd x4 (wrap64 (aa - 1))) ≥ (rd ag aa))) af ae) else (none)) else (none)) else (zg.j3 k x4 Sw ah x38 ag ai aa false af ae)))) else (none)) else (none)) else (zg.l0 k Sw ah (wrap64 (x38 + 1)) af ae)
def zg.j3 : Nat → List Int → List (List Int) → Int → Int → List Int → Int → Int → Bool → Int → List (List Int) → Option (Bool)
 | 0, _, _, _, _, _, _, _, _, _, _ => none
 | k + 1, x4, Sw, ah, x38, ag, ai, aa, aj, af, ae => if aj = true then (some false) else (zg.l1 k x4 Sw ah x38 ag ai (wrap64 (aa + 1)) af ae)
end
def zg.f (k : Nat) (yn : Int) (yh : List (List Int)) : Option (Bool) := if yn < 2 then (zg.j0 k true yn yh) else (if yn > 60 then (zg.j0 k true yn yh) else (if (yh.length : Int) < 1 then (zg.j0 k true yn yh) else (if (yh.length : Int) > 4096 then (zg.j0 k true yn yh) else (if 0 < (yh.length : Int) then (zg.j0 k (decide (((zt yh 0).length : Int) < 2)) yn yh) else (none)))))
set_option maxHeartbeats 8000000 in
set_option maxRecDepth 100000 in
theorem zg.calls (k : Nat) (yn : Int) (yQ : Option Addr) (yM : Nat) (yh : List (List Int)) (r : Bool) (w : World) (Ah : Kd.C (Kd.slice 3 (Kd.int .i64)) w yQ yh.length yh) (Ai : yh.length ≤ yM) (h : zg.f k yn yh = some r) :
  Calls Try.prog 93 #[.agg #[.int .i64 yn, .slice yQ yh.length yM]] w fun e w' => e = .returned (.bool r) ∧ Below w.heap.size w w' := by
 have PY := Try.underlying29;have zA := yf.mk Ah;have zK := yf.mk Ai;clear Ah Ai;have HB := yf.mk (Below.refl w.heap.size w)
 have H : (if yn < 2 then (zg.j0 k true yn yh) else (if yn > 60 then (zg.j0 k true yn yh) else (if (yh.length : Int) < 1 then (zg.j0 k true yn yh) else (if (yh.length : Int) > 4096 then (zg.j0 k true yn yh) else (if 0 < (yh.length : Int) then (zg.j0 k (decide (((zt yh 0).length : Int) < 2)) yn yh) else (none)))))) = some r := h
 clear h;have Wq := yf.mk H;clear H
 go_enter Try.func93, Try.ntmps93
 go_upto_region 1 with (((with_reducible refine yI (N := 1) rfl ?_); (try (refine Ab (by rfl) ?_; dsimp only)); refine yG rfl (N := 1) rfl (cs := #[.int .i64 yn, .slice yQ yh.length yM]) (t := 29) (by go_simp) ?_; intro aJ hg w3 yJ hb; have ae := yf.mk (yJ); have bW := bG (w := w) hg; have bX := bG (w := w) hg; replace HB := bS HB hb; clear hb yJ hg))
 (try simp only [pz])
 go_cut [34] (fun v34 wc => ∃ (kq : Nat) (aD : Bool), v34 = .bool aD ∧ yf (zg.j0 kq aD yn yh = some r) ∧ yf (kq ≤ k) ∧ yf (wc.heap[aJ]? = some (.cells #[.int .i64 yn, (.slice yQ yh.length yM)] 29 (0, 0))) ∧ yf (Below w.heap.size w wc))
 case first =>
  have H := Wq.out;clear Wq
  by_cases c4 : yn < 2
  ·
   rw [if_pos c4] at H;have ES := decide_eq_true c4;clear c4
   (skip)
   have H' := yf.mk H;clear H;have Zp := bc2 ae;have Zq := bf ae
   go_wp2
   go_meet
   case rel => exact ⟨_, (true), (by rfl), H', ⟨by omega⟩, ⟨kk ae⟩, ⟨bO HB⟩⟩
  rw [if_neg c4] at H;have ES := decide_eq_false c4;clear c4
  (skip)
  by_cases c6 : yn > 60
  ·
   rw [if_pos c6] at H;have EJ := decide_eq_true c6;clear c6;have H' := yf.mk H;clear H;have bY := bc2 ae;have cu := bf ae
   go_wp2
   go_meet
   case rel => exact ⟨_, (true), (by rfl), H', ⟨by omega⟩, ⟨kk ae⟩, ⟨bO HB⟩⟩
  rw [if_neg c6] at H;have EJ := decide_eq_false c6;clear c6
  by_cases c8 : (yh.length : Int) < 1
  ·
   rw [if_pos c8] at H;have GZ := decide_eq_true c8
   have Nh : decide (yh.length < 1) = true := decide_eq_true (by omega)
   clear c8;have H' := yf.mk H;clear H;have Qb := bc2 ae;have Qc := bf ae
   go_wp2
   go_meet
   case rel => exact ⟨_, (true), (by rfl), H', ⟨by omega⟩, ⟨kk ae⟩, ⟨bO HB⟩⟩
  rw [if_neg c8] at H;have GZ := decide_eq_false c8
  have Nh : decide (yh.length < 1) = false := decide_eq_false (by omega)
  clear c8
  by_cases c10 : (yh.length : Int) > 4096
  ·
   rw [if_pos c10] at H;have Gi := decide_eq_true c10
   have M7 : decide (4096 < yh.length) = true := decide_eq_true (by omega)
   clear c10;have H' := yf.mk H;clear H;have Ma := bc2 ae;have Mc := bf ae
   go_wp2
   go_meet
   case rel => exact ⟨_, (true), (by rfl), H', ⟨by omega⟩, ⟨kk ae⟩, ⟨bO HB⟩⟩
  rw [if_neg c10] at H;have Gi := decide_eq_false c10
  have M7 : decide (4096 < yh.length) = false := decide_eq_false (by omega)
  clear c10
  by_cases c12 : 0 < (yh.length : Int)
  rotate_left
  ·
   rw [if_neg c12] at H;exact absurd H (by simp)
  rw [if_pos c12] at H;have Gh := decide_eq_true c12
  have NA : decide (0 < yh.length) = true := decide_eq_true (by omega)
  clear c12;have H' := yf.mk H;clear H;have Np := bc2 ae;have Nq := bf ae
  have aU : 0 ≤ (0 : Int) := (by omega)
  have aX : 0 < (yh.length : Int) := of_decide_eq_true ‹_›
  obtain ⟨bV, cz, cK, bM, aG, bi, bn⟩ := EC zA.out 0 aU aX;cases bM
  have bZ : (0 < yh.length) = True := eq_true (by omega)
  (try rw [show ((0 : Int)).toNat = 0 from rfl] at aG)
  (try rw [Addr.add_zero'] at aG)
  replace aG := cB HB aG;have cO := yf.mk bn;have bU := yf.mk bi;clear bn bi;replace aU := eq_true aU;replace aX := eq_true aX
  go_wp2
  go_meet
  case rel => exact ⟨_, (decide (((zt yh 0).length : Int) < 2)), (by rfl), H', ⟨by omega⟩, ⟨kk ae⟩, ⟨bO HB⟩⟩
 case rest =>
 clear Wq;obtain ⟨kq, aD, rfl, HA, YN, ae, HB⟩ := hcut
 cases kq with
 | zero => exact absurd HA.out (by simp [zg.j0])
 | succ YO =>
  have H := HA.out;clear HA;simp only [zg.j0] at H
  by_cases c14 : aD = true
  ·
   subst c14;rw [if_pos rfl] at H;obtain rfl := Option.some.inj H
   go_wp2
   go_ret
   exact ⟨by rfl, bO HB⟩
  ·
   replace c14 := Bool.eq_false_iff.mpr c14;subst c14
   rw [if_neg (show ¬ (false = true) by decide)] at H
   have H' := yf.mk H;clear H;have R8 := bc2 ae;have R9 := bf ae
   go_wp2
   go_loopg [38] YO (fun kq v38 w' => ∃ (aa : Int), v38 = .int .i64 aa ∧ yf (zg.l0 kq yh (yh.length : Int) aa yn yh = some r) ∧ yf (kq ≤ YO) ∧ yf (w'.heap[aJ]? = some (.cells #[.int .i64 yn, (.slice yQ yh.length yM)] 29 (0, 0))) ∧ yf (Below w.heap.size w w'))
   case atStart => exact ⟨(0), (by rfl), H', ⟨Nat.le_refl _⟩, ⟨kk ae⟩, ⟨bO HB⟩⟩
   case round =>
    clear H' R8 R9;obtain ⟨aa, rfl, HA, D6, ae, HB⟩ := hrel
    cases gk with
    | zero => exact absurd HA.out (by simp [zg.l0])
    | succ k2 =>
     have H := HA.out;clear HA;simp only [zg.l0] at H
     by_cases c16 : aa < (yh.length : Int)
     ·
      rw [if_pos c16] at H;have Fy := decide_eq_true c16;clear c16
      by_cases c17 : 0 ≤ aa
      ·
       rw [if_pos c17] at H;have Nk := decide_eq_true c17;clear c17
       by_cases c18 : aa < (yh.length : Int)
       ·
        rw [if_pos c18] at H;have NC := decide_eq_true c18;clear c18
        by_cases c19 : 0 < (yh.length : Int)
        ·
         rw [if_pos c19] at H;have QK := decide_eq_true c19
         have bR : decide (0 < yh.length) = true := decide_eq_true (by omega)
         clear c19
         by_cases c20 : ((zt yh aa).length : Int) = ((zt yh 0).length : Int)
         ·
          rw [if_pos c20] at H;have KJ := beq_iff_eq.mpr c20
          have bu : (((zt yh aa).length : Int) != ((zt yh 0).length : Int)) = false := bne_eq_false_iff_eq.mpr c20
          have bv : ((zt yh aa).length == (zt yh 0).length) = true := by (simp at c20 ⊢; omega)
          clear c20;have H' := yf.mk H;clear H
          have ai : 0 ≤ (aa : Int) := of_decide_eq_true ‹_›
          have aj : aa < (yh.length : Int) := of_decide_eq_true ‹_›
          obtain ⟨az, bN, bL, e197, av, ay, ax⟩ := EC zA.out aa ai aj;cases e197;replace av := cB HB av;have aQ := yf.mk ax;have bH := yf.mk ay;clear ax ay;replace ai := eq_true ai;replace aj := eq_true aj;have ND := bc2 ae;have NE := bf ae
          have ak : 0 ≤ (0 : Int) := (by omega)
          have au : 0 < (yh.length : Int) := of_decide_eq_true ‹_›
          obtain ⟨aT, bC, bT, aM, ag, aA, aC⟩ := EC zA.out 0 ak au;obtain rfl : az = aT := (by injection aM)
          have bJ : (0 < yh.length) = True := eq_true (by omega)
          (try rw [show ((0 : Int)).toNat = 0 from rfl] at ag)
          (try rw [Addr.add_zero'] at ag)
          replace ag := cB HB ag;have bA := yf.mk aC;have bP := yf.mk aA;clear aC aA;replace ak := eq_true ak;replace au := eq_true au
          go_wp2
          go_loopg [52] k2 (fun kq v52 w' => ∃ (af : Int), v52 = .int .i64 af ∧ yf (zg.l1 kq (zt yh aa) yh (yh.length : Int) aa (zt yh aa) ((zt yh aa).length : Int) af yn yh = some r) ∧ yf (kq ≤ k2) ∧ yf (w'.heap[aJ]? = some (.cells #[.int .i64 yn, (.slice (some az) yh.length yM)] 29 (0, 0))) ∧ yf (Below w.heap.size w w'))
          case atStart => exact ⟨(0), (by rfl), H', ⟨Nat.le_refl _⟩, ⟨kk ae⟩, ⟨bO HB⟩⟩
          case round =>
           clear H' Fy Nk NC QK bR KJ bu bv ND NE av ag ai ak aj au;obtain ⟨af, rfl, HA, GV, ae, HB⟩ := hrel
           cases gk with
           | zero => exact absurd HA.out (by simp [zg.l1])
           | succ k3 =>
            have H := HA.out;clear HA;simp only [zg.l1] at H
            by_cases Ih : af < ((zt yh aa).length : Int)
            ·
             rw [if_pos Ih] at H;have JV := decide_eq_true Ih;clear Ih
             by_cases c23 : 0 ≤ af
             ·
              rw [if_pos c23] at H;have QM := decide_eq_true c23;clear c23
              by_cases c24 : af < ((zt yh aa).length : Int)
              ·
               rw [if_pos c24] at H;have Nl := decide_eq_true c24;clear c24;have aN := yf.mk H;clear H
               have aI : 0 ≤ (af : Int) := of_decide_eq_true ‹_›
               have aK : af < ((zt yh aa).length : Int) := of_decide_eq_true ‹_›
               obtain ⟨bD, e199, aV⟩ := Kd.C9 aQ.out af aI aK;cases e199;replace aV := cB HB aV;replace aI := eq_true aI;replace aK := eq_true aK
               go_upto_region 11 with (fail)
               go_cut [77] (fun v77 wc => ∃ (kq : Nat) (aH : Bool), v77 = .bool aH ∧ yf (zg.j3 kq (zt yh aa) yh (yh.length : Int) aa (zt yh aa) ((zt yh aa).length : Int) af aH yn yh = some r) ∧ yf (kq ≤ k3) ∧ yf (wc.heap[aJ]? = some (.cells #[.int .i64 yn, (.slice (some az) yh.length yM)] 29 (0, 0))) ∧ yf (Below w.heap.size w wc))
               case first =>
                have H := aN.out;clear aN
                by_cases Qu : (rd (zt yh aa) af) < 0
                ·
                 rw [if_pos Qu] at H;have Uo := decide_eq_true Qu;clear Qu
                 (skip)
                 have H' := yf.mk H;clear H
                 go_wp2
                 go_meet
                 case rel => exact ⟨_, (true), (by rfl), H', ⟨by have := YN.out; have := D6.out; have := GV.out; omega⟩, ⟨kk ae⟩, ⟨bO HB⟩⟩
                ·
                 rw [if_neg Qu] at H;have Uo := decide_eq_false Qu;clear Qu
                 (skip)
                 by_cases V9 : (rd (zt yh aa) af) ≥ yn
                 ·
                  rw [if_pos V9] at H;have WW := decide_eq_true V9;clear V9;have H' := yf.mk H;clear H;have Ra := bc2 ae;have Rb := bf ae
                  go_wp2
                  go_meet
                  case rel => exact ⟨_, (true), (by rfl), H', ⟨by have := YN.out; have := D6.out; have := GV.out; omega⟩, ⟨kk ae⟩, ⟨bO HB⟩⟩
                 ·
                  rw [if_neg V9] at H;have WW := decide_eq_false V9;clear V9
                  by_cases Oq : af > 0
                  ·
                   rw [if_pos Oq] at H;have QF := decide_eq_true Oq;clear Oq;obtain ⟨ah, bq⟩ : ∃ j_ : Int, (wrap64 (af - 1)) = j_ := ⟨_, rfl⟩
                   replace H : (if 0 ≤ (ah) then (if (ah) < ((zt yh aa).length : Int) then (zg.j3 k3 (zt yh aa) yh (yh.length : Int) aa (zt yh aa) ((zt yh aa).length : Int) af (decide ((rd (zt yh aa) (ah)) ≥ (rd (zt yh aa) af))) yn yh) else (none)) else (none)) = some r := by (rw [bq] at H; exact H)
                   have hji30w : (IntKind.i64.wrap (af - 1)) = ah := (i64_w _).trans bq
                   by_cases c31 : 0 ≤ (ah)
                   ·
                    rw [if_pos c31] at H;have OQ := decide_eq_true c31;clear c31
                    by_cases c32 : (ah) < ((zt yh aa).length : Int)
                    ·
                     rw [if_pos c32] at H;have M4 := decide_eq_true c32;clear c32;have H' := yf.mk H;clear H;have Je := bc2 ae;have Jf := bf ae
                     have aW : 0 ≤ ((ah) : Int) := of_decide_eq_true ‹_›
                     have aY : (ah) < ((zt yh aa).length : Int) := of_decide_eq_true ‹_›
                     obtain ⟨bF, bQ, bg⟩ := Kd.C9 aQ.out (ah) aW aY;obtain rfl : bD = bF := (by injection bQ);replace bg := cB HB bg;replace aW := eq_true aW;replace aY := eq_true aY
                     go_wp2
                     go_meet
                     case rel => exact ⟨_, (decide ((rd (zt yh aa) (ah)) ≥ (rd (zt yh aa) af))), (by rfl), H', ⟨by have := YN.out; have := D6.out; have := GV.out; omega⟩, ⟨kk ae⟩, ⟨bO HB⟩⟩
                    ·
                     rw [if_neg c32] at H;exact absurd H (by simp)
                   ·
                    rw [if_neg c31] at H;exact absurd H (by simp)
                  ·
                   rw [if_neg Oq] at H;have QF := decide_eq_false Oq;clear Oq;have H' := yf.mk H;clear H;have Ns := bc2 ae;have Nt := bf ae
                   go_wp2
                   go_meet
                   case rel => exact ⟨_, (false), (by rfl), H', ⟨by have := YN.out; have := D6.out; have := GV.out; omega⟩, ⟨kk ae⟩, ⟨bO HB⟩⟩
               case rest =>
                clear aN JV QM Nl aV aI aK;obtain ⟨kq, aH, rfl, HA, aZ, ae, HB⟩ := hcut
                cases kq with
                | zero => exact absurd HA.out (by simp [zg.j3])
                | succ bI =>
                 have H := HA.out;clear HA;simp only [zg.j3] at H
                 by_cases Ko : aH = true
                 ·
                  subst Ko;rw [if_pos rfl] at H;obtain rfl := Option.some.inj H
                  go_wp2
                  go_ret
                  exact ⟨by rfl, bO HB⟩
                 ·
                  replace Ko := Bool.eq_false_iff.mpr Ko;subst Ko
                  rw [if_neg (show ¬ (false = true) by decide)] at H
                  have H' := yf.mk H;clear H
                  go_wp2
                  go_roundg bI
                  case measure => have := YN.out; have := D6.out; have := GV.out; have := aZ.out; omega
                  case rel => exact ⟨(wrap64 (af + 1)), (by rfl), H', ⟨by have := YN.out; have := D6.out; have := GV.out; have := aZ.out; omega⟩, ⟨kk ae⟩, ⟨bO HB⟩⟩
              ·
               rw [if_neg c24] at H;exact absurd H (by simp)
             ·
              rw [if_neg c23] at H;exact absurd H (by simp)
            ·
             rw [if_neg Ih] at H;have JV := decide_eq_false Ih;clear Ih;have H' := yf.mk H;clear H
             go_wp2
             go_roundg k3
             case measure => have := YN.out; have := D6.out; have := GV.out; omega
             case rel => exact ⟨(wrap64 (aa + 1)), (by rfl), H', ⟨by have := YN.out; have := D6.out; have := GV.out; omega⟩, ⟨kk ae⟩, ⟨bO HB⟩⟩
         ·
          rw [if_neg c20] at H;have KJ := beq_eq_false_iff_ne.mpr c20;have bu := bne_iff_ne.mpr c20
          have bv : ((zt yh aa).length == (zt yh 0).length) = false := by (simp at c20 ⊢; omega)
          obtain rfl := Option.some.inj H
          have ai : 0 ≤ (aa : Int) := of_decide_eq_true ‹_›
          have aj : aa < (yh.length : Int) := of_decide_eq_true ‹_›
          obtain ⟨az, bN, bL, e197, av, ay, ax⟩ := EC zA.out aa ai aj;cases e197;replace av := cB HB av;have aQ := yf.mk ax;have bH := yf.mk ay;clear ax ay;replace ai := eq_true ai;replace aj := eq_true aj;have QH := bc2 ae;have QI := bf ae
          have ak : 0 ≤ (0 : Int) := (by omega)
          have au : 0 < (yh.length : Int) := of_decide_eq_true ‹_›
          obtain ⟨aT, bC, bT, aM, ag, aA, aC⟩ := EC zA.out 0 ak au;obtain rfl : az = aT := (by injection aM)
          have bJ : (0 < yh.length) = True := eq_true (by omega)
          (try rw [show ((0 : Int)).toNat = 0 from rfl] at ag)
          (try rw [Addr.add_zero'] at ag)
          replace ag := cB HB ag;have bA := yf.mk aC;have bP := yf.mk aA;clear aC aA;replace ak := eq_true ak;replace au := eq_true au
          go_wp2
          go_ret
          exact ⟨by rfl, bO HB⟩
        ·
         rw [if_neg c19] at H;exact absurd H (by simp)
       ·
        rw [if_neg c18] at H;exact absurd H (by simp)
      ·
       rw [if_neg c17] at H;exact absurd H (by simp)
     ·
      rw [if_neg c16] at H;have Fy := decide_eq_false c16;clear c16;obtain rfl := Option.some.inj H
      go_wp2
      go_ret
      exact ⟨by rfl, bO HB⟩
end Go.Proofs.Ytjonnfmoocijlaa.P
namespace Go.Proofs.Ytjonnfmoocijlaa.P
open Go.RowKit Go.Proofs.YtjonnfmoocijlaaKW.PrintWords
def JI (d : Int) (w : Nat) (g : List Int) : Prop := g.length = w ∧ (∀ x ∈ g, 0 ≤ x ∧ x < d) ∧ g.Pairwise (· < ·)
instance (d : Int) (w : Nat) (g : List Int) : Decidable (JI d w g) := by unfold JI; infer_instance
def AllOk (d : Int) (w : Nat) (gs : List (List Int)) : Bool := gs.all fun g => decide (JI d w g)
theorem Tn (d : Int) (w : Nat) (g : List Int) (gs : List (List Int)) : AllOk d w (g :: gs) = (decide (JI d w g) && AllOk d w gs) := rfl
def Ed (d : Int) (l : List (List Int)) : Prop := 2 ≤ d ∧ d ≤ 60 ∧ 1 ≤ l.length ∧ l.length ≤ 4096 ∧ 2 ≤ (l.getD 0 []).length ∧ AllOk d (l.getD 0 []).length l = true
instance (d : Int) (l : List (List Int)) : Decidable (Ed d l) := by unfold Ed; infer_instance
def NF (d : Int) (g : List Int) (t : Nat) : Prop := 0 ≤ g.getD t 0 ∧ g.getD t 0 < d ∧ (0 < t → g.getD (t - 1) 0 < g.getD t 0)
instance (d : Int) (g : List Int) (t : Nat) : Decidable (NF d g t) := by unfold NF; infer_instance
def From (d : Int) (g : List Int) (j : Nat) : Prop := ∀ t, t < g.length → j ≤ t → NF d g t
instance (d : Int) (g : List Int) (j : Nat) : Decidable (From d g j) := by unfold From; infer_instance
theorem From.step {d : Int} {g : List Int} {j : Nat} (h : NF d g j) : From d g j ↔ From d g (j + 1) := by
  refine ⟨fun f t h1 h2 => f t h1 (by omega), fun f t h1 h2 => ?_⟩
  rcases Nat.lt_or_ge j t with h3 | h3
  · exact f t h1 h3
  · obtain rfl : t = j := by omega
    exact h
theorem Rc (d : Int) (w : Nat) (g : List Int) : JI d w g ↔ g.length = w ∧ ∀ t, t < g.length → NF d g t := by
  constructor
  · rintro ⟨h1, h2, h3⟩
    refine ⟨h1, fun t ht => ?_⟩
    rw [List.pairwise_iff_getElem] at h3
    have := h2 _ (List.getElem_mem ht)
    unfold NF
    rw [getD_at _ _ _ ht]
    refine ⟨this.1, this.2, fun h0 => ?_⟩
    rw [getD_at _ _ _ (by omega)]
    exact h3 _ _ (by omega) ht (by omega)
  · rintro ⟨h1, h2⟩
    refine ⟨h1, fun x hx => ?_, ?_⟩
    · obtain ⟨t, ht, rfl⟩ := List.getElem_of_mem hx
      have := h2 t ht
      unfold NF at this
      rw [getD_at _ _ _ ht] at this
      exact ⟨this.1, this.2.1⟩
    · rw [List.pairwise_iff_getElem]
      intro i j hi hj hij
      induction j with
      | zero => omega
      | succ j ih =>
        have h5 := (h2 (j + 1) hj).2.2 (by omega)
        rw [getD_at _ _ _ hj, getD_at _ _ _ (by omega)] at h5
        simp only [Nat.add_sub_cancel] at h5
        rcases Nat.lt_or_ge i j with h6 | h6
        · exact Int.lt_trans (ih (by omega) h6) h5
        · obtain rfl : i = j := by omega
          exact h5
theorem Va (d : Int) (L : List (List Int)) (i : Int) (g : List Int) (hg : g.length ≤ 9223372036854775807) {r : Bool} (n : Nat) : ∀ j : Nat, j ≤ g.length → g.length - j = n → Ev (fun k => zg.l0 k L (L.length : Int) (wrap64 (i + 1)) d L) r →
    Ev (fun k => zg.l1 k g L (L.length : Int) i g (g.length : Int) (j : Int) d L) (if From d g j then r else false) := by
  induction n with
  | zero =>
    intro j hj hn hr
    refine evs (fun k => by rw [zg.l1]) ?_
    refine BQ (by omega) ?_
    rw [if_pos (show From d g j from fun t h1 h2 => by omega)]
    exact hr
  | succ n ih =>
    intro j hj hn hr
    have hlt : j < g.length := by omega
    refine evs (fun k => by rw [zg.l1]) ?_
    refine AJ (by omega) (AJ (by omega) (AJ (by omega) ?_))
    have hrd : rd g (j : Int) = g.getD j 0 := by unfold rd; rw [Int.toNat_natCast]
    have hbad : ¬ NF d g j → Ev (fun k => zg.j3 k g L (L.length : Int) i g (g.length : Int) (j : Int) true d L) (if From d g j then r else false) := by
      intro hb
      rw [if_neg (show ¬ From d g j from fun h => hb (h j hlt (Nat.le_refl _)))]
      refine evs (fun k => by rw [zg.j3]) ?_
      exact AJ rfl (Ev.now _)
    have hgood : NF d g j → Ev (fun k => zg.j3 k g L (L.length : Int) i g (g.length : Int) (j : Int) false d L) (if From d g j then r else false) := by
      intro hb
      refine evs (fun k => by rw [zg.j3]) ?_
      refine BQ (by decide) ?_
      rw [ww (x := (j : Int) + 1) (by omega) (by omega)]
      have := ih (j + 1) (by omega) (by omega) hr
      rw [show (if From d g j then r else false) = (if From d g (j + 1) then r else false) from by simp only [From.step hb]]
      exact this
    rw [hrd]
    by_cases c1 : g.getD j 0 < 0
    · exact AJ c1 (hbad (fun h => by unfold NF at h; omega))
    refine BQ c1 ?_
    by_cases c2 : g.getD j 0 ≥ d
    · exact AJ c2 (hbad (fun h => by unfold NF at h; omega))
    refine BQ c2 ?_
    by_cases c3 : (j : Int) > 0
    · refine AJ c3 ?_
      rw [ww (x := (j : Int) - 1) (by omega) (by omega)]
      refine AJ (by omega) (AJ (by omega) ?_)
      have h4 : rd g ((j : Int) - 1) = g.getD (j - 1) 0 := by unfold rd; congr 1; omega
      rw [h4]
      by_cases c4 : g.getD (j - 1) 0 ≥ g.getD j 0
      · rw [decide_eq_true c4]
        exact hbad (fun h => by have := h.2.2 (by omega); omega)
      · rw [decide_eq_false c4]
        exact hgood ⟨by omega, by omega, fun _ => by omega⟩
    · exact BQ c3 (hgood ⟨by omega, by omega, fun _ => by omega⟩)
theorem Vb (d : Int) (L : List (List Int)) (hL : L.length ≤ 4096) (hl : ∀ g ∈ L, g.length ≤ 9223372036854775807) (n : Nat) : ∀ i : Nat, i ≤ L.length → L.length - i = n →
    Ev (fun k => zg.l0 k L (L.length : Int) (i : Int) d L) (AllOk d (L.getD 0 []).length (L.drop i)) := by
  induction n with
  | zero =>
    intro i hi hn
    refine evs (fun k => by rw [zg.l0]) ?_
    refine BQ (by omega) (I8 ?_)
    rw [List.drop_of_length_le (by omega)]
    rfl
  | succ n ih =>
    intro i hi hn
    have hlt : i < L.length := by omega
    refine evs (fun k => by rw [zg.l0]) ?_
    refine AJ (by omega) (AJ (by omega) (AJ (by omega) (AJ (by omega) ?_)))
    have e1 : zt L (i : Int) = L[i] := by unfold zt; rw [Int.toNat_natCast, getD_at _ _ _ hlt]
    have e2 : zt L 0 = L.getD 0 [] := rfl
    rw [e1, e2, List.drop_eq_getElem_cons hlt, Tn]
    have hg := hl _ (List.getElem_mem hlt)
    by_cases c : (L[i].length : Int) = ((L.getD 0 []).length : Int)
    · refine AJ c ?_
      have := Va d L (i : Int) L[i] hg (r := AllOk d (L.getD 0 []).length (L.drop (i + 1))) L[i].length 0 (by omega) (by omega) (by rw [w1 (n := L.length) (by omega) (by omega) (by omega)]; exact ih (i + 1) (by omega) (by omega))
      have h5 : JI d (L.getD 0 []).length L[i] ↔ From d L[i] 0 := by rw [Rc]; exact ⟨fun h t h1 _ => h.2 t h1, fun h => ⟨by omega, fun t h1 => h t h1 (by omega)⟩⟩
      rw [show ((0 : Nat) : Int) = 0 from rfl] at this
      by_cases h6 : From d L[i] 0
      · rw [if_pos h6] at this
        rw [decide_eq_true (h5.2 h6), Bool.true_and]
        exact this
      · rw [if_neg h6] at this
        rw [decide_eq_false (fun h => h6 (h5.1 h)), Bool.false_and]
        exact this
    · refine BQ c (I8 ?_)
      rw [decide_eq_false (fun h => c (by have := h.1; omega)), Bool.false_and]
theorem Vd (d : Int) (L : List (List Int)) (hl : ∀ g ∈ L, g.length ≤ 9223372036854775807) : Ev (fun k => zg.f k d L) (decide (Ed d L)) := by
  have hj : ∀ b : Bool, (b = true → ¬ Ed d L) → (b = false → 2 ≤ d ∧ d ≤ 60 ∧ 1 ≤ L.length ∧ L.length ≤ 4096 ∧ 2 ≤ (L.getD 0 []).length) → Ev (fun k => zg.j0 k b d L) (decide (Ed d L)) := by
    intro b h1 h2
    refine evs (fun k => by rw [zg.j0]) ?_
    cases b with
    | true => exact AJ rfl (I8 (by simp [h1 rfl]))
    | false =>
      refine BQ (by decide) ?_
      obtain ⟨a1, a2, a3, a4, a5⟩ := h2 rfl
      have := Vb d L a4 hl L.length 0 (by omega) (by omega)
      rw [List.drop_zero] at this
      rw [show decide (Ed d L) = _ from ?_]
      exact this
      simp only [Ed, a1, a2, a3, a4, a5, true_and, Bool.decide_eq_true]
  simp only [zg.f]
  by_cases c1 : d < 2
  · exact AJ c1 (hj true (fun _ h => by unfold Ed at h; omega) (by simp))
  refine BQ c1 ?_
  by_cases c2 : d > 60
  · exact AJ c2 (hj true (fun _ h => by unfold Ed at h; omega) (by simp))
  refine BQ c2 ?_
  by_cases c3 : (L.length : Int) < 1
  · exact AJ c3 (hj true (fun _ h => by unfold Ed at h; omega) (by simp))
  refine BQ c3 ?_
  by_cases c4 : (L.length : Int) > 4096
  · exact AJ c4 (hj true (fun _ h => by unfold Ed at h; omega) (by simp))
  refine BQ c4 (AJ (by omega) ?_)
  have e2 : zt L 0 = L.getD 0 [] := rfl
  rw [e2]
  by_cases c5 : ((L.getD 0 []).length : Int) < 2
  · rw [decide_eq_true c5]
    exact hj true (fun _ h => by unfold Ed at h; omega) (by simp)
  · rw [decide_eq_false c5]
    exact hj false (by simp) (fun _ => ⟨by omega, by omega, by omega, by omega, by omega⟩)
end Go.Proofs.Ytjonnfmoocijlaa.P
