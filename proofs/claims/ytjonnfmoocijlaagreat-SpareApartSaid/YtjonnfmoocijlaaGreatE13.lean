/- Texts of a claim, packed. -/
import Derived.Test.YtjonnfmoocijlaaGreatE2
import Derived.Test.YtjonnfmoocijlaaGreatE4
set_option linter.all false
namespace Go.Proofs.YtjonnfmoocijlaaGreat.P
open Go.RowKit Go.Proofs.YtjonnfmoocijlaaGreatKW.PrintWords Go.Proofs.YtjonnfmoocijlaaGreatKW.PrintLast Go.Proofs.YtjonnfmoocijlaaGreatKW.PrintMore
attribute [local go_sem] zN zP Af Ag zz zA zO zQ
def D9.f (yj : Int) (yg : List (List Int)) (ym : Int) (yn : Int) (Cf : Int) (Au : Int) (Ah : Int) (Cs : List (List Int)) (BL : List (List Int)) (Ex : Int) (De : Int) : Option (Int) := some (wrap64 (Cf - 3))
set_option maxHeartbeats 8000000 in
set_option maxRecDepth 100000 in
theorem D9.calls (yj : Int) (yK : Option Addr) (yE : Nat) (yg : List (List Int)) (ym : Int) (yn : Int) (Cf : Int) (Au : Int) (Ah : Int) (FR : Option Addr) (FL : Nat) (Cs : List (List Int)) (Gl : Option Addr) (FM : Nat) (BL : List (List Int)) (Ex : Int) (De : Int) (r : Int) (w : World) (zS : Kd.C (Kd.slice 3 (Kd.int .i64)) w yK yg.length yg) (zT : yg.length ≤ yE) (H7 : Kd.C (Kd.slice 3 (Kd.int .i64)) w FR Cs.length Cs) (H5 : Cs.length ≤ FL) (H8 : Kd.C (Kd.slice 3 (Kd.int .i64)) w Gl BL.length BL) (H6 : BL.length ≤ FM) (h : D9.f yj yg ym yn Cf Au Ah Cs BL Ex De = some r) :
  Calls Tryz.prog 73 #[.agg #[.int .i64 yj,.slice yK yg.length yE,.int .i64 ym,.int .i64 yn,.int .i64 Cf,.int .i64 Au,.int .i64 Ah,.slice FR Cs.length FL,.slice Gl BL.length FM,.int .i64 Ex,.int .i64 De]] w fun e w' => e = .returned (.int .i64 r) ∧ Below w.heap.size w w' := by
 have PI := Tryz.underlying94;have zk := yf.mk zS;have zq := yf.mk zT;clear zS zT;have Lx := yf.mk H7;have MP := yf.mk H5;clear H7 H5;have LA := yf.mk H8;have MQ := yf.mk H6;clear H8 H6;have HB := yf.mk (Below.refl w.heap.size w)
 have H : (some (wrap64 (Cf - 3))) = some r := h
 clear h;obtain rfl := Option.some.inj H
 go_enter Tryz.func73,Tryz.ntmps73
 go_wp2_with (((with_reducible refine yG (N := 1) rfl ?_);refine yD rfl (N := 1) rfl (cs := #[.int .i64 yj,.slice yK yg.length yE,.int .i64 ym,.int .i64 yn,.int .i64 Cf,.int .i64 Au,.int .i64 Ah,.slice FR Cs.length FL,.slice Gl BL.length FM,.int .i64 Ex,.int .i64 De]) (t := 94) (by go_simp) ?_;intro ag hg w2 yI hb;have aa := yf.mk (yI);have af := bG (w := w) hg;have ae := bG (w := w) hg;replace HB := bS HB hb;clear hb yI hg;have a3I := E9 aa;have a3W := bf aa))
 go_ret
 exact ⟨by rfl,bO HB⟩
mutual
def za.j0 : Nat → Bool → Int → List (List Int) → Option (Bool)
 | 0,_,_,_ => none
 | k + 1,x34,af,ae => if x34 = true then (some false) else (za.l0 k ae (ae.length : Int) 0 af ae)
def za.l0 : Nat → List (List Int) → Int → Int → Int → List (List Int) → Option (Bool)
 | 0,_,_,_,_,_ => none
 | k + 1,Ry,ag,x38,af,ae => if x38 < ag then (if 0 ≤ x38 then (if x38 < (Ry.length : Int) then (if 0 < (ae.length : Int) then (if ((yX Ry x38).length : Int) = ((yX ae 0).length : Int) then (za.l1 k (yX Ry x38) Ry ag x38 (yX Ry x38) ((yX Ry x38).length : Int) 0 af ae) else (some false)) else (none)) else (none)) else (none)) else (some true)
def za.l1 : Nat → List Int → List (List Int) → Int → Int → List Int → Int → Int → Int → List (List Int) → Option (Bool)
 | 0,_,_,_,_,_,_,_,_,_ => none
 | k + 1,x4,Ry,ag,x38,ah,ai,aa,af,ae => if aa < ai then (if 0 ≤ aa then (if aa < (ah.length : Int) then (if (rd ah aa) < 0 then (za.j3 k x4 Ry ag x38 ah ai aa true af ae) else (if (rd ah aa) ≥ af then (za.j3 k x4 Ry ag x38 ah ai aa true af ae) else (if aa > 0 then (if 0 ≤ (wrap64 (aa - 1)) then (if (wrap64 (aa - 1)) < (x4.length : Int) then (za.j3 k x4 Ry ag x38 ah ai aa (decide ((rd x4 (wrap64 (aa - 1))) ≥ (rd ah aa))) af ae) else (none)) else (none)) else (za.j3 k x4 Ry ag x38 ah ai aa false af ae)))) else (none)) else (none)) else (za.l0 k Ry ag (wrap64 (x38 + 1)) af ae)
def za.j3 : Nat → List Int → List (List Int) → Int → Int → List Int → Int → Int → Bool → Int → List (List Int) → Option (Bool)
 | 0,_,_,_,_,_,_,_,_,_,_ => none
 | k + 1,x4,Ry,ag,x38,ah,ai,aa,aj,af,ae => if aj = true then (some false) else (za.l1 k x4 Ry ag x38 ah ai (wrap64 (aa + 1)) af ae)
end
def za.f (k : Nat) (yj : Int) (yg : List (List Int)) : Option (Bool) := if yj < 2 then (za.j0 k true yj yg) else (if yj > 60 then (za.j0 k true yj yg) else (if (yg.length : Int) < 1 then (za.j0 k true yj yg) else (if (yg.length : Int) > 4096 then (za.j0 k true yj yg) else (if 0 < (yg.length : Int) then (za.j0 k (decide (((yX yg 0).length : Int) < 2)) yj yg) else (none)))))
set_option maxHeartbeats 8000000 in
set_option maxRecDepth 100000 in
theorem za.calls (k : Nat) (yj : Int) (yK : Option Addr) (yE : Nat) (yg : List (List Int)) (r : Bool) (w : World) (zS : Kd.C (Kd.slice 3 (Kd.int .i64)) w yK yg.length yg) (zT : yg.length ≤ yE) (h : za.f k yj yg = some r) :
  Calls Tryz.prog 87 #[.agg #[.int .i64 yj,.slice yK yg.length yE]] w fun e w' => e = .returned (.bool r) ∧ Below w.heap.size w w' := by
 have UQ := Tryz.underlying27;have zk := yf.mk zS;have zq := yf.mk zT;clear zS zT;have HB := yf.mk (Below.refl w.heap.size w)
 have H : (if yj < 2 then (za.j0 k true yj yg) else (if yj > 60 then (za.j0 k true yj yg) else (if (yg.length : Int) < 1 then (za.j0 k true yj yg) else (if (yg.length : Int) > 4096 then (za.j0 k true yj yg) else (if 0 < (yg.length : Int) then (za.j0 k (decide (((yX yg 0).length : Int) < 2)) yj yg) else (none)))))) = some r := h
 clear h;have Vz := yf.mk H;clear H
 go_enter Tryz.func87,Tryz.ntmps87
 go_upto_region 1 with (((with_reducible refine yG (N := 1) rfl ?_);(try (refine AX (by rfl) ?_;dsimp only));refine yD rfl (N := 1) rfl (cs := #[.int .i64 yj,.slice yK yg.length yE]) (t := 27) (by go_simp) ?_;intro aD hg w3 yI hb;have ae := yf.mk (yI);have bW := bG (w := w) hg;have bV := bG (w := w) hg;replace HB := bS HB hb;clear hb yI hg))
 (try simp only [pz])
 go_cut [34] (fun v34 wc => ∃ (kq : Nat) (aJ : Bool),v34 = .bool aJ ∧ yf (za.j0 kq aJ yj yg = some r) ∧ yf (kq ≤ k) ∧ yf (wc.heap[aD]? = some (.cells #[.int .i64 yj,(.slice yK yg.length yE)] 27 (0,0))) ∧ yf (Below w.heap.size w wc))
 case first =>
  have H := Vz.out;clear Vz
  by_cases c4 : yj < 2
  ·
   rw [if_pos c4] at H;have ER := decide_eq_true c4;clear c4
   (skip)
   have H' := yf.mk H;clear H;have Z0 := bc2 ae;have Z6 := bf ae
   go_wp2
   go_meet
   case rel => exact ⟨_,(true),(by rfl),H',⟨by omega⟩,⟨kk ae⟩,⟨bO HB⟩⟩
  rw [if_neg c4] at H;have ER := decide_eq_false c4;clear c4
  (skip)
  by_cases c6 : yj > 60
  ·
   rw [if_pos c6] at H;have Eu := decide_eq_true c6;clear c6;have H' := yf.mk H;clear H;have a2f := bc2 ae;have a2h := bf ae
   go_wp2
   go_meet
   case rel => exact ⟨_,(true),(by rfl),H',⟨by omega⟩,⟨kk ae⟩,⟨bO HB⟩⟩
  rw [if_neg c6] at H;have Eu := decide_eq_false c6;clear c6
  by_cases c8 : (yg.length : Int) < 1
  ·
   rw [if_pos c8] at H;have GN := decide_eq_true c8
   have Nk : decide (yg.length < 1) = true := decide_eq_true (by omega)
   clear c8;have H' := yf.mk H;clear H;have PD := bc2 ae;have PE := bf ae
   go_wp2
   go_meet
   case rel => exact ⟨_,(true),(by rfl),H',⟨by omega⟩,⟨kk ae⟩,⟨bO HB⟩⟩
  rw [if_neg c8] at H;have GN := decide_eq_false c8
  have Nk : decide (yg.length < 1) = false := decide_eq_false (by omega)
  clear c8
  by_cases c10 : (yg.length : Int) > 4096
  ·
   rw [if_pos c10] at H;have Fu := decide_eq_true c10
   have N9 : decide (4096 < yg.length) = true := decide_eq_true (by omega)
   clear c10;have H' := yf.mk H;clear H;have Kt := bc2 ae;have KA := bf ae
   go_wp2
   go_meet
   case rel => exact ⟨_,(true),(by rfl),H',⟨by omega⟩,⟨kk ae⟩,⟨bO HB⟩⟩
  rw [if_neg c10] at H;have Fu := decide_eq_false c10
  have N9 : decide (4096 < yg.length) = false := decide_eq_false (by omega)
  clear c10
  by_cases c12 : 0 < (yg.length : Int)
  rotate_left
  ·
   rw [if_neg c12] at H;exact absurd H (by simp)
  rw [if_pos c12] at H;have Gj := decide_eq_true c12
  have Ot : decide (0 < yg.length) = true := decide_eq_true (by omega)
  clear c12;have H' := yf.mk H;clear H;have Nw := bc2 ae;have ND := bf ae
  have aV : 0 ≤ (0 : Int) := (by omega)
  have aX : 0 < (yg.length : Int) := of_decide_eq_true ‹_›
  obtain ⟨bZ,bU,cu,bP,aG,bu,bn⟩ := Ec zk.out 0 aV aX;cases bP
  have cz : (0 < yg.length) = True := eq_true (by omega)
  (try rw [show ((0 : Int)).toNat = 0 from rfl] at aG)
  (try rw [Addr.add_zero'] at aG)
  replace aG := cB HB aG;have bY := yf.mk bn;have bX := yf.mk bu;clear bn bu;replace aV := eq_true aV;replace aX := eq_true aX
  go_wp2
  go_meet
  case rel => exact ⟨_,(decide (((yX yg 0).length : Int) < 2)),(by rfl),H',⟨by omega⟩,⟨kk ae⟩,⟨bO HB⟩⟩
 case rest =>
 clear Vz;obtain ⟨kq,aJ,rfl,HA,Yl,ae,HB⟩ := hcut
 cases kq with
 | zero => exact absurd HA.out (by simp [za.j0])
 | succ Yo =>
  have H := HA.out;clear HA;simp only [za.j0] at H
  by_cases c14 : aJ = true
  ·
   subst c14;rw [if_pos rfl] at H;obtain rfl := Option.some.inj H
   go_wp2
   go_ret
   exact ⟨by rfl,bO HB⟩
  ·
   replace c14 := Bool.eq_false_iff.mpr c14;subst c14
   rw [if_neg (show ¬ (false = true) by decide)] at H
   have H' := yf.mk H;clear H;have Qz := bc2 ae;have QF := bf ae
   go_wp2
   go_loopg [38] Yo (fun kq v38 w' => ∃ (aa : Int),v38 = .int .i64 aa ∧ yf (za.l0 kq yg (yg.length : Int) aa yj yg = some r) ∧ yf (kq ≤ Yo) ∧ yf (w'.heap[aD]? = some (.cells #[.int .i64 yj,(.slice yK yg.length yE)] 27 (0,0))) ∧ yf (Below w.heap.size w w'))
   case atStart => exact ⟨(0),(by rfl),H',⟨Nat.le_refl _⟩,⟨kk ae⟩,⟨bO HB⟩⟩
   case round =>
    clear H' Qz QF;obtain ⟨aa,rfl,HA,Di,ae,HB⟩ := hrel
    cases gk with
    | zero => exact absurd HA.out (by simp [za.l0])
    | succ k2 =>
     have H := HA.out;clear HA;simp only [za.l0] at H
     by_cases c16 : aa < (yg.length : Int)
     ·
      rw [if_pos c16] at H;have FC := decide_eq_true c16;clear c16
      by_cases c17 : 0 ≤ aa
      ·
       rw [if_pos c17] at H;have Nc := decide_eq_true c17;clear c17
       by_cases c18 : aa < (yg.length : Int)
       ·
        rw [if_pos c18] at H;have Qh := decide_eq_true c18;clear c18
        by_cases c19 : 0 < (yg.length : Int)
        ·
         rw [if_pos c19] at H;have Qi := decide_eq_true c19
         have bN : decide (0 < yg.length) = true := decide_eq_true (by omega)
         clear c19
         by_cases c20 : ((yX yg aa).length : Int) = ((yX yg 0).length : Int)
         ·
          rw [if_pos c20] at H;have Ki := beq_iff_eq.mpr c20
          have bg : (((yX yg aa).length : Int) != ((yX yg 0).length : Int)) = false := bne_eq_false_iff_eq.mpr c20
          have bi : ((yX yg aa).length == (yX yg 0).length) = true := by (simp at c20 ⊢;omega)
          clear c20;have H' := yf.mk H;clear H
          have ai : 0 ≤ (aa : Int) := of_decide_eq_true ‹_›
          have ak : aa < (yg.length : Int) := of_decide_eq_true ‹_›
          obtain ⟨ax,bA,bL,e197,av,aA,ay⟩ := Ec zk.out aa ai ak;cases e197;replace av := cB HB av;have aN := yf.mk ay;have bD := yf.mk aA;clear ay aA;replace ai := eq_true ai;replace ak := eq_true ak;have JH := bc2 ae;have JJ := bf ae
          have aj : 0 ≤ (0 : Int) := (by omega)
          have au : 0 < (yg.length : Int) := of_decide_eq_true ‹_›
          obtain ⟨aQ,bC,bM,aT,ag,aC,az⟩ := Ec zk.out 0 aj au;obtain rfl : ax = aQ := (by injection aT)
          have bT : (0 < yg.length) = True := eq_true (by omega)
          (try rw [show ((0 : Int)).toNat = 0 from rfl] at ag)
          (try rw [Addr.add_zero'] at ag)
          replace ag := cB HB ag;have bH := yf.mk az;have bF := yf.mk aC;clear az aC;replace aj := eq_true aj;replace au := eq_true au
          go_wp2
          go_loopg [52] k2 (fun kq v52 w' => ∃ (af : Int),v52 = .int .i64 af ∧ yf (za.l1 kq (yX yg aa) yg (yg.length : Int) aa (yX yg aa) ((yX yg aa).length : Int) af yj yg = some r) ∧ yf (kq ≤ k2) ∧ yf (w'.heap[aD]? = some (.cells #[.int .i64 yj,(.slice (some ax) yg.length yE)] 27 (0,0))) ∧ yf (Below w.heap.size w w'))
          case atStart => exact ⟨(0),(by rfl),H',⟨Nat.le_refl _⟩,⟨kk ae⟩,⟨bO HB⟩⟩
          case round =>
           clear H' FC Nc Qh Qi bN Ki bg bi JH JJ av ag ai aj ak au;obtain ⟨af,rfl,HA,Fx,ae,HB⟩ := hrel
           cases gk with
           | zero => exact absurd HA.out (by simp [za.l1])
           | succ k3 =>
            have H := HA.out;clear HA;simp only [za.l1] at H
            by_cases I4 : af < ((yX yg aa).length : Int)
            ·
             rw [if_pos I4] at H;have JE := decide_eq_true I4;clear I4
             by_cases c23 : 0 ≤ af
             ·
              rw [if_pos c23] at H;have Qk := decide_eq_true c23;clear c23
              by_cases c24 : af < ((yX yg aa).length : Int)
              ·
               rw [if_pos c24] at H;have Kj := decide_eq_true c24;clear c24;have aM := yf.mk H;clear H
               have aH : 0 ≤ (af : Int) := of_decide_eq_true ‹_›
               have aI : af < ((yX yg aa).length : Int) := of_decide_eq_true ‹_›
               obtain ⟨bI,e199,aU⟩ := Kd.BG aN.out af aH aI;cases e199;replace aU := cB HB aU;replace aH := eq_true aH;replace aI := eq_true aI
               go_upto_region 11 with (fail)
               go_cut [77] (fun v77 wc => ∃ (kq : Nat) (aK : Bool),v77 = .bool aK ∧ yf (za.j3 kq (yX yg aa) yg (yg.length : Int) aa (yX yg aa) ((yX yg aa).length : Int) af aK yj yg = some r) ∧ yf (kq ≤ k3) ∧ yf (wc.heap[aD]? = some (.cells #[.int .i64 yj,(.slice (some ax) yg.length yE)] 27 (0,0))) ∧ yf (Below w.heap.size w wc))
               case first =>
                have H := aM.out;clear aM
                by_cases K7 : (rd (yX yg aa) af) < 0
                ·
                 rw [if_pos K7] at H;have Nf := decide_eq_true K7;clear K7
                 (skip)
                 have H' := yf.mk H;clear H
                 go_wp2
                 go_meet
                 case rel => exact ⟨_,(true),(by rfl),H',⟨by have := Yl.out;have := Di.out;have := Fx.out;omega⟩,⟨kk ae⟩,⟨bO HB⟩⟩
                ·
                 rw [if_neg K7] at H;have Nf := decide_eq_false K7;clear K7
                 (skip)
                 by_cases Pp : (rd (yX yg aa) af) ≥ yj
                 ·
                  rw [if_pos Pp] at H;have Tz := decide_eq_true Pp;clear Pp;have H' := yf.mk H;clear H;have TK := bc2 ae;have TR := bf ae
                  go_wp2
                  go_meet
                  case rel => exact ⟨_,(true),(by rfl),H',⟨by have := Yl.out;have := Di.out;have := Fx.out;omega⟩,⟨kk ae⟩,⟨bO HB⟩⟩
                 ·
                  rw [if_neg Pp] at H;have Tz := decide_eq_false Pp;clear Pp
                  by_cases L6 : af > 0
                  ·
                   rw [if_pos L6] at H;have Ow := decide_eq_true L6;clear L6;obtain ⟨ah,bq⟩ : ∃ j_ : Int,(wrap64 (af - 1)) = j_ := ⟨_,rfl⟩
                   replace H : (if 0 ≤ (ah) then (if (ah) < ((yX yg aa).length : Int) then (za.j3 k3 (yX yg aa) yg (yg.length : Int) aa (yX yg aa) ((yX yg aa).length : Int) af (decide ((rd (yX yg aa) (ah)) ≥ (rd (yX yg aa) af))) yj yg) else (none)) else (none)) = some r := by (rw [bq] at H;exact H)
                   have hji30w : (IntKind.i64.wrap (af - 1)) = ah := (i64_w _).trans bq
                   by_cases c31 : 0 ≤ (ah)
                   ·
                    rw [if_pos c31] at H;have Ox := decide_eq_true c31;clear c31
                    by_cases c32 : (ah) < ((yX yg aa).length : Int)
                    ·
                     rw [if_pos c32] at H;have Ql := decide_eq_true c32;clear c32;have H' := yf.mk H;clear H;have Nz := bc2 ae;have NF := bf ae
                     have aW : 0 ≤ ((ah) : Int) := of_decide_eq_true ‹_›
                     have aY : (ah) < ((yX yg aa).length : Int) := of_decide_eq_true ‹_›
                     obtain ⟨bJ,bQ,bv⟩ := Kd.BG aN.out (ah) aW aY;obtain rfl : bI = bJ := (by injection bQ);replace bv := cB HB bv;replace aW := eq_true aW;replace aY := eq_true aY
                     go_wp2
                     go_meet
                     case rel => exact ⟨_,(decide ((rd (yX yg aa) (ah)) ≥ (rd (yX yg aa) af))),(by rfl),H',⟨by have := Yl.out;have := Di.out;have := Fx.out;omega⟩,⟨kk ae⟩,⟨bO HB⟩⟩
                    ·
                     rw [if_neg c32] at H;exact absurd H (by simp)
                   ·
                    rw [if_neg c31] at H;exact absurd H (by simp)
                  ·
                   rw [if_neg L6] at H;have Ow := decide_eq_false L6;clear L6;have H' := yf.mk H;clear H;have NA := bc2 ae;have NG := bf ae
                   go_wp2
                   go_meet
                   case rel => exact ⟨_,(false),(by rfl),H',⟨by have := Yl.out;have := Di.out;have := Fx.out;omega⟩,⟨kk ae⟩,⟨bO HB⟩⟩
               case rest =>
                clear aM JE Qk Kj aU aH aI;obtain ⟨kq,aK,rfl,HA,aZ,ae,HB⟩ := hcut
                cases kq with
                | zero => exact absurd HA.out (by simp [za.j3])
                | succ bR =>
                 have H := HA.out;clear HA;simp only [za.j3] at H
                 by_cases Mg : aK = true
                 ·
                  subst Mg;rw [if_pos rfl] at H;obtain rfl := Option.some.inj H
                  go_wp2
                  go_ret
                  exact ⟨by rfl,bO HB⟩
                 ·
                  replace Mg := Bool.eq_false_iff.mpr Mg;subst Mg
                  rw [if_neg (show ¬ (false = true) by decide)] at H
                  have H' := yf.mk H;clear H
                  go_wp2
                  go_roundg bR
                  case measure => have := Yl.out;have := Di.out;have := Fx.out;have := aZ.out;omega
                  case rel => exact ⟨(wrap64 (af + 1)),(by rfl),H',⟨by have := Yl.out;have := Di.out;have := Fx.out;have := aZ.out;omega⟩,⟨kk ae⟩,⟨bO HB⟩⟩
              ·
               rw [if_neg c24] at H;exact absurd H (by simp)
             ·
              rw [if_neg c23] at H;exact absurd H (by simp)
            ·
             rw [if_neg I4] at H;have JE := decide_eq_false I4;clear I4;have H' := yf.mk H;clear H
             go_wp2
             go_roundg k3
             case measure => have := Yl.out;have := Di.out;have := Fx.out;omega
             case rel => exact ⟨(wrap64 (aa + 1)),(by rfl),H',⟨by have := Yl.out;have := Di.out;have := Fx.out;omega⟩,⟨kk ae⟩,⟨bO HB⟩⟩
         ·
          rw [if_neg c20] at H;have Ki := beq_eq_false_iff_ne.mpr c20;have bg := bne_iff_ne.mpr c20
          have bi : ((yX yg aa).length == (yX yg 0).length) = false := by (simp at c20 ⊢;omega)
          obtain rfl := Option.some.inj H
          have ai : 0 ≤ (aa : Int) := of_decide_eq_true ‹_›
          have ak : aa < (yg.length : Int) := of_decide_eq_true ‹_›
          obtain ⟨ax,bA,bL,e197,av,aA,ay⟩ := Ec zk.out aa ai ak;cases e197;replace av := cB HB av;have aN := yf.mk ay;have bD := yf.mk aA;clear ay aA;replace ai := eq_true ai;replace ak := eq_true ak;have NC := bc2 ae;have NH := bf ae
          have aj : 0 ≤ (0 : Int) := (by omega)
          have au : 0 < (yg.length : Int) := of_decide_eq_true ‹_›
          obtain ⟨aQ,bC,bM,aT,ag,aC,az⟩ := Ec zk.out 0 aj au;obtain rfl : ax = aQ := (by injection aT)
          have bT : (0 < yg.length) = True := eq_true (by omega)
          (try rw [show ((0 : Int)).toNat = 0 from rfl] at ag)
          (try rw [Addr.add_zero'] at ag)
          replace ag := cB HB ag;have bH := yf.mk az;have bF := yf.mk aC;clear az aC;replace aj := eq_true aj;replace au := eq_true au
          go_wp2
          go_ret
          exact ⟨by rfl,bO HB⟩
        ·
         rw [if_neg c19] at H;exact absurd H (by simp)
       ·
        rw [if_neg c18] at H;exact absurd H (by simp)
      ·
       rw [if_neg c17] at H;exact absurd H (by simp)
     ·
      rw [if_neg c16] at H;have FC := decide_eq_false c16;clear c16;obtain rfl := Option.some.inj H
      go_wp2
      go_ret
      exact ⟨by rfl,bO HB⟩
end Go.Proofs.YtjonnfmoocijlaaGreat.P
namespace Go.Proofs.YtjonnfmoocijlaaGreat.P
open Go.RowKit Go.Proofs.YtjonnfmoocijlaaGreatKW.PrintWords
def Jk (d : Int) (w : Nat) (g : List Int) : Prop := g.length = w ∧ (∀ x ∈ g,0 ≤ x ∧ x < d) ∧ g.Pairwise (· < ·)
instance (d : Int) (w : Nat) (g : List Int) : Decidable (Jk d w g) := by unfold Jk;infer_instance
def AllOk (d : Int) (w : Nat) (gs : List (List Int)) : Bool := gs.all fun g => decide (Jk d w g)
theorem RP (d : Int) (w : Nat) (g : List Int) (gs : List (List Int)) : AllOk d w (g :: gs) = (decide (Jk d w g) && AllOk d w gs) := rfl
def DF (d : Int) (l : List (List Int)) : Prop := 2 ≤ d ∧ d ≤ 60 ∧ 1 ≤ l.length ∧ l.length ≤ 4096 ∧ 2 ≤ (l.getD 0 []).length ∧ AllOk d (l.getD 0 []).length l = true
instance (d : Int) (l : List (List Int)) : Decidable (DF d l) := by unfold DF;infer_instance
def MN (d : Int) (g : List Int) (t : Nat) : Prop := 0 ≤ g.getD t 0 ∧ g.getD t 0 < d ∧ (0 < t → g.getD (t - 1) 0 < g.getD t 0)
instance (d : Int) (g : List Int) (t : Nat) : Decidable (MN d g t) := by unfold MN;infer_instance
def From (d : Int) (g : List Int) (j : Nat) : Prop := ∀ t,t < g.length → j ≤ t → MN d g t
instance (d : Int) (g : List Int) (j : Nat) : Decidable (From d g j) := by unfold From;infer_instance
theorem From.step {d : Int} {g : List Int} {j : Nat} (h : MN d g j) : From d g j ↔ From d g (j + 1) := by
  refine ⟨fun f t h1 h2 => f t h1 (by omega),fun f t h1 h2 => ?_⟩
  rcases Nat.lt_or_ge j t with h3 | h3
  · exact f t h1 h3
  · obtain rfl : t = j := by omega
    exact h
theorem Qx (d : Int) (w : Nat) (g : List Int) : Jk d w g ↔ g.length = w ∧ ∀ t,t < g.length → MN d g t := by
  constructor
  · rintro ⟨h1,h2,h3⟩
    refine ⟨h1,fun t ht => ?_⟩
    rw [List.pairwise_iff_getElem] at h3
    have := h2 _ (List.getElem_mem ht)
    unfold MN
    rw [getD_at _ _ _ ht]
    refine ⟨this.1,this.2,fun h0 => ?_⟩
    rw [getD_at _ _ _ (by omega)]
    exact h3 _ _ (by omega) ht (by omega)
  · rintro ⟨h1,h2⟩
    refine ⟨h1,fun x hx => ?_,?_⟩
    · obtain ⟨t,ht,rfl⟩ := List.getElem_of_mem hx
      have := h2 t ht
      unfold MN at this
      rw [getD_at _ _ _ ht] at this
      exact ⟨this.1,this.2.1⟩
    · rw [List.pairwise_iff_getElem]
      intro i j hi hj hij
      induction j with
      | zero => omega
      | succ j ih =>
        have h5 := (h2 (j + 1) hj).2.2 (by omega)
        rw [getD_at _ _ _ hj,getD_at _ _ _ (by omega)] at h5
        simp only [Nat.add_sub_cancel] at h5
        rcases Nat.lt_or_ge i j with h6 | h6
        · exact Int.lt_trans (ih (by omega) h6) h5
        · obtain rfl : i = j := by omega
          exact h5
theorem UK (d : Int) (L : List (List Int)) (i : Int) (g : List Int) (hg : g.length ≤ 9223372036854775807) {r : Bool} (n : Nat) : ∀ j : Nat,j ≤ g.length → g.length - j = n → Ev (fun k => za.l0 k L (L.length : Int) (wrap64 (i + 1)) d L) r →
    Ev (fun k => za.l1 k g L (L.length : Int) i g (g.length : Int) (j : Int) d L) (if From d g j then r else false) := by
  induction n with
  | zero =>
    intro j hj hn hr
    refine evs (fun k => by rw [za.l1]) ?_
    refine BF (by omega) ?_
    rw [if_pos (show From d g j from fun t h1 h2 => by omega)]
    exact hr
  | succ n ih =>
    intro j hj hn hr
    have hlt : j < g.length := by omega
    refine evs (fun k => by rw [za.l1]) ?_
    refine AA (by omega) (AA (by omega) (AA (by omega) ?_))
    have hrd : rd g (j : Int) = g.getD j 0 := by unfold rd;rw [Int.toNat_natCast]
    have hbad : ¬ MN d g j → Ev (fun k => za.j3 k g L (L.length : Int) i g (g.length : Int) (j : Int) true d L) (if From d g j then r else false) := by
      intro hb
      rw [if_neg (show ¬ From d g j from fun h => hb (h j hlt (Nat.le_refl _)))]
      refine evs (fun k => by rw [za.j3]) ?_
      exact AA rfl (Ev.now _)
    have hgood : MN d g j → Ev (fun k => za.j3 k g L (L.length : Int) i g (g.length : Int) (j : Int) false d L) (if From d g j then r else false) := by
      intro hb
      refine evs (fun k => by rw [za.j3]) ?_
      refine BF (by decide) ?_
      rw [ww (x := (j : Int) + 1) (by omega) (by omega)]
      have := ih (j + 1) (by omega) (by omega) hr
      rw [show (if From d g j then r else false) = (if From d g (j + 1) then r else false) from by simp only [From.step hb]]
      exact this
    rw [hrd]
    by_cases c1 : g.getD j 0 < 0
    · exact AA c1 (hbad (fun h => by unfold MN at h;omega))
    refine BF c1 ?_
    by_cases c2 : g.getD j 0 ≥ d
    · exact AA c2 (hbad (fun h => by unfold MN at h;omega))
    refine BF c2 ?_
    by_cases c3 : (j : Int) > 0
    · refine AA c3 ?_
      rw [ww (x := (j : Int) - 1) (by omega) (by omega)]
      refine AA (by omega) (AA (by omega) ?_)
      have h4 : rd g ((j : Int) - 1) = g.getD (j - 1) 0 := by unfold rd;congr 1;omega
      rw [h4]
      by_cases c4 : g.getD (j - 1) 0 ≥ g.getD j 0
      · rw [decide_eq_true c4]
        exact hbad (fun h => by have := h.2.2 (by omega);omega)
      · rw [decide_eq_false c4]
        exact hgood ⟨by omega,by omega,fun _ => by omega⟩
    · exact BF c3 (hgood ⟨by omega,by omega,fun _ => by omega⟩)
theorem UJ (d : Int) (L : List (List Int)) (hL : L.length ≤ 4096) (hl : ∀ g ∈ L,g.length ≤ 9223372036854775807) (n : Nat) : ∀ i : Nat,i ≤ L.length → L.length - i = n →
    Ev (fun k => za.l0 k L (L.length : Int) (i : Int) d L) (AllOk d (L.getD 0 []).length (L.drop i)) := by
  induction n with
  | zero =>
    intro i hi hn
    refine evs (fun k => by rw [za.l0]) ?_
    refine BF (by omega) (Hw ?_)
    rw [List.drop_of_length_le (by omega)]
    rfl
  | succ n ih =>
    intro i hi hn
    have hlt : i < L.length := by omega
    refine evs (fun k => by rw [za.l0]) ?_
    refine AA (by omega) (AA (by omega) (AA (by omega) (AA (by omega) ?_)))
    have e1 : yX L (i : Int) = L[i] := by unfold yX;rw [Int.toNat_natCast,getD_at _ _ _ hlt]
    have e2 : yX L 0 = L.getD 0 [] := rfl
    rw [e1,e2,List.drop_eq_getElem_cons hlt,RP]
    have hg := hl _ (List.getElem_mem hlt)
    by_cases c : (L[i].length : Int) = ((L.getD 0 []).length : Int)
    · refine AA c ?_
      have := UK d L (i : Int) L[i] hg (r := AllOk d (L.getD 0 []).length (L.drop (i + 1))) L[i].length 0 (by omega) (by omega) (by rw [w1 (n := L.length) (by omega) (by omega) (by omega)];exact ih (i + 1) (by omega) (by omega))
      have h5 : Jk d (L.getD 0 []).length L[i] ↔ From d L[i] 0 := by rw [Qx];exact ⟨fun h t h1 _ => h.2 t h1,fun h => ⟨by omega,fun t h1 => h t h1 (by omega)⟩⟩
      rw [show ((0 : Nat) : Int) = 0 from rfl] at this
      by_cases h6 : From d L[i] 0
      · rw [if_pos h6] at this
        rw [decide_eq_true (h5.2 h6),Bool.true_and]
        exact this
      · rw [if_neg h6] at this
        rw [decide_eq_false (fun h => h6 (h5.1 h)),Bool.false_and]
        exact this
    · refine BF c (Hw ?_)
      rw [decide_eq_false (fun h => c (by have := h.1;omega)),Bool.false_and]
theorem UI (d : Int) (L : List (List Int)) (hl : ∀ g ∈ L,g.length ≤ 9223372036854775807) : Ev (fun k => za.f k d L) (decide (DF d L)) := by
  have hj : ∀ b : Bool,(b = true → ¬ DF d L) → (b = false → 2 ≤ d ∧ d ≤ 60 ∧ 1 ≤ L.length ∧ L.length ≤ 4096 ∧ 2 ≤ (L.getD 0 []).length) → Ev (fun k => za.j0 k b d L) (decide (DF d L)) := by
    intro b h1 h2
    refine evs (fun k => by rw [za.j0]) ?_
    cases b with
    | true => exact AA rfl (Hw (by simp [h1 rfl]))
    | false =>
      refine BF (by decide) ?_
      obtain ⟨a1,a2,a3,a4,a5⟩ := h2 rfl
      have := UJ d L a4 hl L.length 0 (by omega) (by omega)
      rw [List.drop_zero] at this
      rw [show decide (DF d L) = _ from ?_]
      exact this
      simp only [DF,a1,a2,a3,a4,a5,true_and,Bool.decide_eq_true]
  simp only [za.f]
  by_cases c1 : d < 2
  · exact AA c1 (hj true (fun _ h => by unfold DF at h;omega) (by simp))
  refine BF c1 ?_
  by_cases c2 : d > 60
  · exact AA c2 (hj true (fun _ h => by unfold DF at h;omega) (by simp))
  refine BF c2 ?_
  by_cases c3 : (L.length : Int) < 1
  · exact AA c3 (hj true (fun _ h => by unfold DF at h;omega) (by simp))
  refine BF c3 ?_
  by_cases c4 : (L.length : Int) > 4096
  · exact AA c4 (hj true (fun _ h => by unfold DF at h;omega) (by simp))
  refine BF c4 (AA (by omega) ?_)
  have e2 : yX L 0 = L.getD 0 [] := rfl
  rw [e2]
  by_cases c5 : ((L.getD 0 []).length : Int) < 2
  · rw [decide_eq_true c5]
    exact hj true (fun _ h => by unfold DF at h;omega) (by simp)
  · rw [decide_eq_false c5]
    exact hj false (by simp) (fun _ => ⟨by omega,by omega,by omega,by omega,by omega⟩)
end Go.Proofs.YtjonnfmoocijlaaGreat.P
