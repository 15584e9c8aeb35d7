/- Texts of a claim, packed. -/
import Derived.Test.YtjonnfmoocijlaaGreatE7
import Derived.Test.YtjonnfmoocijlaaGreatE8
set_option linter.all false
namespace Go.Proofs.YtjonnfmoocijlaaGreat.P
open Go.RowKit Go.Proofs.YtjonnfmoocijlaaGreatKW.PrintWords Go.Proofs.YtjonnfmoocijlaaGreatKW.PrintLast Go.Proofs.YtjonnfmoocijlaaGreatKW.PrintMore
attribute [local go_sem] zN zP Af Ag zz zA zO zQ
mutual
def yA.l0 : Nat → Int → List (JD) → Int → Int → List (List Int) → Option (Int × (List (List Int)))
 | 0,_,_,_,_,_ => none
 | k + 1,x0,x3,x5,ae,aa => if x5 < (x3.length : Int) then (yA.l1 k x0 x3 x5 ([] : List Int) 0 ae aa) else (some (ae,aa))
def yA.l1 : Nat → Int → List (JD) → Int → List Int → Int → Int → List (List Int) → Option (Int × (List (List Int)))
 | 0,_,_,_,_,_,_,_ => none
 | k + 1,x0,x3,x5,x6,x7,ae,aa => if x7 < (x3.length : Int) then (yA.l2 k x0 x3 x5 x6 x7 0 0 ae aa) else (if aa.length < 5864062014805 then (yA.l0 k x0 x3 (wrap64 (x5 + 1)) ae (aa ++ [x6])) else (none))
def yA.l2 : Nat → Int → List (JD) → Int → List Int → Int → Int → Int → Int → List (List Int) → Option (Int × (List (List Int)))
 | 0,_,_,_,_,_,_,_,_,_ => none
 | k + 1,x0,x3,x5,x6,x7,x8,x9,ae,aa => if x9 < 3 then (if 0 ≤ x5 then (if x5 < (x3.length : Int) then (if x9 = 0 then (if 0 ≤ x7 then (if x7 < (x3.length : Int) then ((yu.f k x0 ((C9 x3 x5).f0) ((C9 x3 x7).f0)).bind fun XV => ((zm.f k x0 x8 XV).bind fun Zq => (yA.l2 k x0 x3 x5 x6 x7 Zq (wrap64 (x9 + 1)) ae aa))) else (none)) else (none)) else (if x9 = 1 then (if 0 ≤ x7 then (if x7 < (x3.length : Int) then ((yu.f k x0 ((C9 x3 x5).f1) ((C9 x3 x7).f1)).bind fun XW => ((zm.f k x0 x8 XW).bind fun Zr => (yA.l2 k x0 x3 x5 x6 x7 Zr (wrap64 (x9 + 1)) ae aa))) else (none)) else (none)) else (if x9 = 2 then (if 0 ≤ x7 then (if x7 < (x3.length : Int) then ((yu.f k x0 ((C9 x3 x5).f2) ((C9 x3 x7).f2)).bind fun XX => ((zm.f k x0 x8 XX).bind fun Zt => (yA.l2 k x0 x3 x5 x6 x7 Zt (wrap64 (x9 + 1)) ae aa))) else (none)) else (none)) else (none)))) else (none)) else (none)) else (if x8 = 0 then (if x6.length < 17592186044416 then (yA.l1 k x0 x3 x5 (x6 ++ [x7]) (wrap64 (x7 + 1)) ae aa) else (none)) else (yA.l1 k x0 x3 x5 x6 (wrap64 (x7 + 1)) ae aa))
end
def yA.f (k : Nat) (a0 : Int) : Option (Int × (List (List Int))) := (yw.f k a0).bind fun Cv => (yA.l0 k a0 Cv 0 (Cv.length : Int) ([] : List (List Int)))
theorem yA.mono_l : ∀ k,(∀ y0 y1 y2 y3 y4,Bh (yA.l0 k y0 y1 y2 y3 y4) (yA.l0 (k + 1) y0 y1 y2 y3 y4)) ∧ (∀ y0 y1 y2 y3 y4 y5 y6,Bh (yA.l1 k y0 y1 y2 y3 y4 y5 y6) (yA.l1 (k + 1) y0 y1 y2 y3 y4 y5 y6)) ∧ (∀ y0 y1 y2 y3 y4 y5 y6 y7 y8,Bh (yA.l2 k y0 y1 y2 y3 y4 y5 y6 y7 y8) (yA.l2 (k + 1) y0 y1 y2 y3 y4 y5 y6 y7 y8))
 | 0 => ⟨fun _ _ _ _ _ r h => by simp [yA.l0] at h,fun _ _ _ _ _ _ _ r h => by simp [yA.l1] at h,fun _ _ _ _ _ _ _ _ _ r h => by simp [yA.l2] at h⟩
 | k + 1 => by
  obtain ⟨Fz,ih1,ih2⟩ := yA.mono_l k
  refine ⟨?_,?_,?_⟩
  ·
   intro y0 y1 y2 y3 y4
   unfold yA.l0
   repeat' first
   | exact Fz _ _ _ _ _
   | exact ih1 _ _ _ _ _ _ _
   | exact ih2 _ _ _ _ _ _ _ _ _
   | exact zm.mono _ _ _ _
   | exact yu.mono _ _ _ _
   | exact yw.mono _ _
   | exact Bh.refl _
   | exact Bh.none _
   | refine Bh.ite ?_ ?_
   | refine Bh.bind ?_ (fun _ => ?_)
  ·
   intro y0 y1 y2 y3 y4 y5 y6
   unfold yA.l1
   repeat' first
   | exact Fz _ _ _ _ _
   | exact ih1 _ _ _ _ _ _ _
   | exact ih2 _ _ _ _ _ _ _ _ _
   | exact zm.mono _ _ _ _
   | exact yu.mono _ _ _ _
   | exact yw.mono _ _
   | exact Bh.refl _
   | exact Bh.none _
   | refine Bh.ite ?_ ?_
   | refine Bh.bind ?_ (fun _ => ?_)
  ·
   intro y0 y1 y2 y3 y4 y5 y6 y7 y8
   unfold yA.l2
   repeat' first
   | exact Fz _ _ _ _ _
   | exact ih1 _ _ _ _ _ _ _
   | exact ih2 _ _ _ _ _ _ _ _ _
   | exact zm.mono _ _ _ _
   | exact yu.mono _ _ _ _
   | exact yw.mono _ _
   | exact Bh.refl _
   | exact Bh.none _
   | refine Bh.ite ?_ ?_
   | refine Bh.bind ?_ (fun _ => ?_)
theorem yA.mono : ∀ a0 k,Bh (yA.f k a0) (yA.f (k + 1) a0) := by
 intro a0 k
 obtain ⟨Fz,ih1,ih2⟩ := yA.mono_l k
 unfold yA.f
 repeat' first
  | exact Fz _ _ _ _ _
  | exact ih1 _ _ _ _ _ _ _
  | exact ih2 _ _ _ _ _ _ _ _ _
  | exact zm.mono _ _ _ _
  | exact yu.mono _ _ _ _
  | exact yw.mono _ _
  | exact Bh.refl _
  | exact Bh.none _
  | refine Bh.ite ?_ ?_
  | refine Bh.bind ?_ (fun _ => ?_)
def yA.T14 : Bool × List (List Nat × List Nat) := (true,[([],[]),([],[]),([],[]),([],[]),([],[]),([],[]),([3,4],[3,4]),([6,5],[5,6]),([7],[7]),([],[]),([],[]),([],[]),([9,10],[9,10]),([12,11],[11,12]),([13],[13]),([2,8,14],[2,8,14]),([0,1,15,15],[0,1,15]),([16,16,0,1,2,3,4,5,6,7,8,9,10,11,12,13,14,15,16],[1,16])])
def yA.B14 : List Nat := [0,0,0,0,0,0,24,120,248,0,0,0,1536,7680,15872,32764,65535,131071]
theorem yA.P5 : Dv .any (opsOf Tryz.f19 14) = yA.T14 := by kernel_rfl
theorem yA.KZ : BH yA.T14.2 yA.B14 = true := by kernel_rfl
set_option maxHeartbeats 8000000 in
set_option maxRecDepth 100000 in
theorem yA.calls (k : Nat) (a0 : Int) (r1 : Int) (r2 : List (List Int)) (w : World) (h : yA.f k a0 = some (r1,r2)) :
  Calls Tryz.prog 19 #[.int .i64 a0] w fun e w' => ∃ Us : Value,e = .returned (.agg #[.int .i64 r1,Us]) ∧ Kd.S (Kd.slice 3 (Kd.int .i64)) 37 w' w.heap.size (fun _ => True) Us r2 ∧ Below w.heap.size w w' := by
 have UQ := Tryz.underlying27;have HB := yf.mk (Below.refl w.heap.size w)
 have H : ((yw.f k a0).bind fun Cv => (yA.l0 k a0 Cv 0 (Cv.length : Int) ([] : List (List Int)))) = some (r1,r2) := h
 clear h;obtain ⟨Cv,A2,H⟩ := bE H
 try dsimp only at H
 have H' := yf.mk H;clear H
 go_enter Tryz.func19,Tryz.ntmps19
 go_wp2_with (first | ((with_reducible refine yG (N := 2) rfl ?_);refine yD rfl (N := 2) rfl (cs := #[.int .i64 0,.slice none 0 0]) (t := 27) (by go_simp) ?_;intro aI hg w3 yI hb;have ae := yf.mk (yI);have di := bG (w := w) hg;have df := bG (w := w) hg;replace HB := bS HB hb;clear hb yI hg) | ((with_reducible refine yz (f := 44) rfl ?_);refine gL (some 11) Tryz.func44 #[.int .i64 a0] ?_;(with_reducible refine (yw.calls k a0 Cv _ A2.out).mono ?_);rintro e w4 ⟨v435,rfl,ho0,hb⟩;refine ⟨_,rfl,?_⟩;have aK := yf.mk (Kd.AC ho0 (yF (bO HB)));replace ae := bB ae hb;replace HB := bS HB hb;clear hb;clear ho0;obtain ⟨aM,aT,d9⟩ := Kd.zB aK.out;subst d9) | ((with_reducible refine yG (N := 4) rfl ?_);refine yD rfl (N := 4) rfl (cs := #[.int .i64 0,.slice none 0 0]) (t := 27) (by go_simp) ?_;intro aC hg w6 yI hb;have aa := yf.mk (yI);have dm := bG (w := w) hg;have dh := bG (w := w) hg;have aN := Cq ae hg;have aQ := Aq ae hg;replace aK := CR aK hb;replace ae := bB ae hb;replace HB := bS HB hb;clear hb yI hg;have a2r := aQ.out;have a2A := aN.out;have QD := bc2 aa;have QJ := bf aa))
 go_loopg [5] k (fun kq v5 w' => ∃ (yP : Int) (aj : List (List Int)) (u438001 : Value),v5 = .int .i64 yP ∧ yf (yA.l0 kq a0 Cv yP (Cv.length : Int) aj = some (r1,r2)) ∧ yf (kq ≤ k) ∧ yf (Kd.R Vr 88 w' w.heap.size (fun _ => True) (.slice aM Cv.length aT) Cv) ∧ yf (Kd.S (Kd.slice 3 (Kd.int .i64)) 37 w' w.heap.size (fun _ => True) u438001 aj) ∧ yf (w'.heap[aI]? = some (.cells #[.int .i64 0,(.slice none 0 0)] 27 (0,0))) ∧ yf (w'.heap[aC]? = some (.cells #[.int .i64 (Cv.length : Int),u438001] 27 (0,0))) ∧ yf (Below w.heap.size w w'))
 case atStart => exact ⟨(0),(([] : List (List Int))),(.slice none 0 0),(by rfl),H',⟨Nat.le_refl _⟩,⟨by (with_reducible repeat (apply Kd.zg));exact Kd.zf (GG (g := aC) (Kd.Bw aK.out aa.out (by decide)) (fun _ hk => hk.2)) (fun _ hk => trivial)⟩,⟨by exact Kd.VE _ _ _ _ _⟩,bK ae rfl,bK aa rfl,⟨bO HB⟩⟩
 case round =>
 clear H' QD QJ;obtain ⟨yP,aj,u438001,rfl,HA,Bn,CW,af,ae,aa,HB⟩ := hrel
 cases gk with
 | zero => exact absurd HA.out (by simp [yA.l0])
 | succ k1 =>
 have H := HA.out;clear HA;simp only [yA.l0] at H
 by_cases c9 : yP < (Cv.length : Int)
 rotate_left
 ·
  rw [if_neg c9] at H;have I5 := decide_eq_false c9;clear c9;simp only [Option.some.injEq,Prod.mk.injEq] at H;obtain ⟨rfl,rfl⟩ := H;have X8 := aQ.out;have Xl := aN.out;have a09 := bc2 aa;have a0m := bf aa;have a3K := bc2 ae;have a3Y := bf ae;obtain ⟨a3k,a3F,a1V⟩ := Kd.EM af.out;subst a1V
  go_wp2
  refine bodyPost_ret (results_cell_row rfl _ _ aI 27 #[.int .i64 (Cv.length : Int),.slice a3k aj.length a3F] (0,0) _ rfl (CY ae rfl) Tryz.underlying27 rfl (by kernel_rfl)) rfl ?_
  exact ⟨_,by rfl,by (with_reducible repeat (apply Kd.Be));exact Kd.BI (MG (g := aI) (Kd.C8 af.out ae.out (by decide)) (fun _ hk => hk.2)) (fun _ hk => trivial),bO HB⟩
 rw [if_pos c9] at H;have I5 := decide_eq_true c9;clear c9;have H' := yf.mk H;clear H
 go_wp2
 go_loopg [6,7] k1 (fun kq v6 v7 w' => ∃ (Dm : List Int) (BU : Int),v7 = .int .i64 BU ∧ yf (yA.l1 kq a0 Cv yP Dm BU (Cv.length : Int) aj = some (r1,r2)) ∧ yf (kq ≤ k1) ∧ yf (Kd.R Vr 88 w' w.heap.size (fun _ => True) (.slice aM Cv.length aT) Cv) ∧ yf (Kd.R (Kd.int .i64) 3 w' w.heap.size (fun _ => True) v6 Dm) ∧ yf (Kd.S (Kd.slice 3 (Kd.int .i64)) 37 w' w.heap.size (fun k_ => some k_ ≠ (v6 : Value).ownBlock) u438001 aj) ∧ yf (w'.heap[aI]? = some (.cells #[.int .i64 0,(.slice none 0 0)] 27 (0,0))) ∧ yf (w'.heap[aC]? = some (.cells #[.int .i64 (Cv.length : Int),u438001] 27 (0,0))) ∧ yf (Below w.heap.size w w'))
 case atStart => exact ⟨(([] : List Int)),(0),(by rfl),H',⟨Nat.le_refl _⟩,⟨kR CW⟩,⟨by exact Kd.Dc _ _ _ _ _⟩,⟨by (with_reducible repeat (apply Kd.Be));exact Kd.BI af.out (fun _ hk => (by simp [Value.ownBlock]))⟩,⟨kk ae⟩,⟨kk aa⟩,⟨bO HB⟩⟩
 case round =>
 clear H' I5;obtain ⟨Dm,BU,rfl,HA,Di,CW,Bz,af,ae,aa,HB⟩ := hrel
 cases gk with
 | zero => exact absurd HA.out (by simp [yA.l1])
 | succ k2 =>
  have H := HA.out;clear HA;simp only [yA.l1] at H
  by_cases c10 : BU < (Cv.length : Int)
  ·
   rw [if_pos c10] at H;have Fu := decide_eq_true c10;clear c10;have H' := yf.mk H;clear H
   go_wp2
   go_loopg [8,9] k2 (fun kq v8 v9 w' => ∃ (F9 : Int) (ah : Int),v8 = .int .i64 F9 ∧ v9 = .int .i64 ah ∧ yf (yA.l2 kq a0 Cv yP Dm BU F9 ah (Cv.length : Int) aj = some (r1,r2)) ∧ yf (kq ≤ k2) ∧ yf (Kd.R Vr 88 w' w.heap.size (fun _ => True) (.slice aM Cv.length aT) Cv) ∧ yf (Kd.R (Kd.int .i64) 3 w' w.heap.size (fun _ => True) u6 Dm) ∧ yf (Kd.S (Kd.slice 3 (Kd.int .i64)) 37 w' w.heap.size (fun k_ => some k_ ≠ (u6 : Value).ownBlock) u438001 aj) ∧ yf (w'.heap[aI]? = some (.cells #[.int .i64 0,(.slice none 0 0)] 27 (0,0))) ∧ yf (w'.heap[aC]? = some (.cells #[.int .i64 (Cv.length : Int),u438001] 27 (0,0))) ∧ yf (Below w.heap.size w w'))
   case atStart => exact ⟨(0),(0),(by rfl),(by rfl),H',⟨Nat.le_refl _⟩,⟨kR CW⟩,⟨kR Bz⟩,⟨kS af⟩,⟨kk ae⟩,⟨kk aa⟩,⟨bO HB⟩⟩
   case round =>
    clear H' Fu;obtain ⟨F9,ah,rfl,rfl,HA,Fx,CW,Bz,af,ae,aa,HB⟩ := hrel
    cases gk with
    | zero => exact absurd HA.out (by simp [yA.l2])
    | succ k3 =>
     have H := HA.out;clear HA;simp only [yA.l2] at H
     by_cases c11 : ah < 3
     ·
      rw [if_pos c11] at H;have Fv := decide_eq_true c11;clear c11
      by_cases c12 : 0 ≤ yP
      ·
       rw [if_pos c12] at H;have Gj := decide_eq_true c12;clear c12
       by_cases c13 : yP < (Cv.length : Int)
       ·
        rw [if_pos c13] at H;have J3 := decide_eq_true c13;clear c13
        by_cases c14 : ah = 0
        ·
         rw [if_pos c14] at H;have Na := beq_iff_eq.mpr c14
         have Nb : (ah != 0) = false := bne_eq_false_iff_eq.mpr c14
         clear c14
         by_cases c15 : 0 ≤ BU
         ·
          rw [if_pos c15] at H;have Iy := decide_eq_true c15;clear c15
          by_cases c16 : BU < (Cv.length : Int)
          ·
           rw [if_pos c16] at H;have FC := decide_eq_true c16;clear c16;obtain ⟨XV,A17,H⟩ := bE H
           try dsimp only at H
           obtain ⟨Zq,A18,H⟩ := bE H
           try dsimp only at H
           have H' := yf.mk H;clear H
           try go_wp2
           replace CW := yf.mk (Kd.DI CW.out);replace Bz := yf.mk (Kd.DI Bz.out);replace af := yf.mk (Kd.Pi af.out);replace ae := yf.mk (zl ae.out);replace aa := yf.mk (zl aa.out);replace HB := yf.mk (zt HB.out)
           have az : 0 ≤ (yP : Int) := of_decide_eq_true ‹_›
           have aA : yP < (Cv.length : Int) := of_decide_eq_true ‹_›
           obtain ⟨ag,aJ,aD,aG,aH⟩ := KY (Kd.zb CW.out).2.2 yP az aA;cases aJ;replace az := eq_true az;replace aA := eq_true aA
           have aW : 0 ≤ (BU : Int) := of_decide_eq_true ‹_›
           have aZ : BU < (Cv.length : Int) := of_decide_eq_true ‹_›
           obtain ⟨bY,cK,bu,bv,bA⟩ := KY (Kd.zb CW.out).2.2 BU aW aZ;obtain rfl : ag = bY := (by injection cK);replace aW := eq_true aW;replace aZ := eq_true aZ
           have ai : ah = 0 := of_decide_eq_true ‹_›
           have bL : (0 ≤ (ah : Int)) = True := eq_true (by rw [ai];decide)
           have bM : ((ah : Int) < 3) = True := eq_true (by rw [ai];decide)
           have bP : ∀ a : Addr,a.add (ah).toNat = a := fun a => by rw [ai];rfl
           clear ai
           refine Bt (n := 18) (S := fun w' => w'.cell? (ag.add ((yP).toNat * 3)) = some (.int .i64 ((C9 Cv yP).f0)) ∧ w'.cell? ⟨(ag.add ((yP).toNat * 3)).block,(ag.add ((yP).toNat * 3)).off + 1,none⟩ = some (.int .i64 ((C9 Cv yP).f1)) ∧ w'.cell? ⟨(ag.add ((yP).toNat * 3)).block,(ag.add ((yP).toNat * 3)).off + 2,none⟩ = some (.int .i64 ((C9 Cv yP).f2)) ∧ w'.cell? (ag.add ((BU).toNat * 3)) = some (.int .i64 ((C9 Cv BU).f0)) ∧ w'.cell? ⟨(ag.add ((BU).toNat * 3)).block,(ag.add ((BU).toNat * 3)).off + 1,none⟩ = some (.int .i64 ((C9 Cv BU).f1)) ∧ w'.cell? ⟨(ag.add ((BU).toNat * 3)).block,(ag.add ((BU).toNat * 3)).off + 2,none⟩ = some (.int .i64 ((C9 Cv BU).f2))) (ds := []) (bz 18 0) (by kernel_rfl) rfl rfl ⟨aD,aG,aH,bu,bv,bA⟩ (fun hHeld => ?_);refine Ab yA.P5 yA.KZ (fun yJ Bv => ?_)
           generalize wr.drew = w19 at CW Bz af ae aa HB aD aG aH bu bv bA hHeld ⊢;refine pU 0 31 18 1 yJ ?_;refine pU 1 32 18 3 yJ ?_;refine pU 2 33 18 7 yJ ?_;refine pU 3 34 18 15 yJ ?_;refine pU 4 35 18 31 yJ ?_;refine pU 5 36 18 63 yJ ?_;refine pU 6 37 18 127 yJ ?_;refine pU 7 38 18 255 yJ ?_;refine pU 9 40 18 767 yJ ?_;refine pU 10 41 18 1791 yJ ?_;refine pU 11 42 18 3839 yJ ?_;refine pU 12 43 18 7935 yJ ?_;refine pU 13 44 18 16127 yJ ?_
           refine Co 8 39 18 16383 yJ Bv hHeld ?_
           refine Co 14 45 18 32767 yJ Bv hHeld ?_
           refine CB (i := 15) (N := some 46) (bz 18 65535) rfl rfl (Ar yJ.out (by kernel_rfl)) (by decide) (fun K hK => ?_)
           refine gO Tryz.func46 #[.int .i64 a0,.int .i64 ((C9 Cv yP).f0),.int .i64 ((C9 Cv BU).f0)] ?_
           with_reducible refine (yu.calls k3 a0 ((C9 Cv yP).f0) ((C9 Cv BU).f0) XV _ A17.out).mono ?_
           rintro e w20 ⟨rfl,hb⟩;have ak := (hb.cell (World.block_lt_of_cell? _ _ (hHeld.1))).trans (hHeld.1);have au := (hb.cell (World.block_lt_of_cell? _ _ (hHeld.2.1))).trans (hHeld.2.1);have av := (hb.cell (World.block_lt_of_cell? _ _ (hHeld.2.2.1))).trans (hHeld.2.2.1);have ax := (hb.cell (World.block_lt_of_cell? _ _ (hHeld.2.2.2.1))).trans (hHeld.2.2.2.1);have KU := (hb.cell (World.block_lt_of_cell? _ _ (hHeld.2.2.2.2.1))).trans (hHeld.2.2.2.2.1);have ay := (hb.cell (World.block_lt_of_cell? _ _ (hHeld.2.2.2.2.2))).trans (hHeld.2.2.2.2.2)
           refine ⟨_,rfl,?_⟩
           replace CW := CR CW hb;replace Bz := CR Bz hb;replace af := Lj af hb;replace ae := bB ae hb;replace aa := bB aa hb;replace HB := bS HB hb;clear hb
           refine hK.out _ _ ⟨ak,au,av,ax,KU,ay⟩ (fun hHeld => ?_)
           clear hK K
           refine AU (a' := ?_) ?_ ?_
           rotate_left
           ·
            show Act.put _ (some 46) _ = _
            simp only [pz]
            rfl
           refine CB (i := 16) (N := some 47) (bz 18 131071) rfl rfl (Ar yJ.out (by kernel_rfl)) (by decide) (fun K hK => ?_)
           refine gO Tryz.func45 #[.int .i64 a0,.int .i64 F9,.int .i64 XV] ?_
           with_reducible refine (zm.calls k3 a0 F9 XV Zq _ A18.out).mono ?_
           rintro e w21 ⟨rfl,hb⟩;have ak := (hb.cell (World.block_lt_of_cell? _ _ (hHeld.1))).trans (hHeld.1);have au := (hb.cell (World.block_lt_of_cell? _ _ (hHeld.2.1))).trans (hHeld.2.1);have av := (hb.cell (World.block_lt_of_cell? _ _ (hHeld.2.2.1))).trans (hHeld.2.2.1);have ax := (hb.cell (World.block_lt_of_cell? _ _ (hHeld.2.2.2.1))).trans (hHeld.2.2.2.1);have KU := (hb.cell (World.block_lt_of_cell? _ _ (hHeld.2.2.2.2.1))).trans (hHeld.2.2.2.2.1);have ay := (hb.cell (World.block_lt_of_cell? _ _ (hHeld.2.2.2.2.2))).trans (hHeld.2.2.2.2.2)
           refine ⟨_,rfl,?_⟩
           replace CW := CR CW hb;replace Bz := CR Bz hb;replace af := Lj af hb;replace ae := bB ae hb;replace aa := bB aa hb;replace HB := bS HB hb;clear hb
           refine hK.out _ _ ⟨ak,au,av,ax,KU,ay⟩ (fun hHeld => ?_)
           clear hK K
           refine AU (a' := ?_) ?_ ?_
           rotate_left
           ·
            show Act.put _ (some 47) _ = _
            simp only [pz]
            rfl
           refine pU 17 8 18 262143 yJ ?_
           refine Cn (AZ yJ.out (by kernel_rfl)) ?_
           try go_wp2
           go_roundg k3
           case measure => have := Bn.out;have := Di.out;have := Fx.out;omega
           case rel => exact ⟨(Zq),(wrap64 (ah + 1)),(by rfl),(by rfl),H',⟨by have := Bn.out;have := Di.out;have := Fx.out;omega⟩,⟨kR CW⟩,⟨kR Bz⟩,⟨kS af⟩,⟨kk ae⟩,⟨kk aa⟩,⟨bO HB⟩⟩
          ·
           rw [if_neg c16] at H;exact absurd H (by simp)
         ·
          rw [if_neg c15] at H;exact absurd H (by simp)
        ·
         rw [if_neg c14] at H;have Na := beq_eq_false_iff_ne.mpr c14;have Nb := bne_iff_ne.mpr c14
         by_cases I4 : ah = 1
         ·
          rw [if_pos I4] at H;have JE := beq_iff_eq.mpr I4
          have cz : (ah != 1) = false := bne_eq_false_iff_eq.mpr I4
          clear I4
          by_cases c23 : 0 ≤ BU
          ·
           rw [if_pos c23] at H;have Qk := decide_eq_true c23;clear c23
           by_cases c24 : BU < (Cv.length : Int)
           ·
            rw [if_pos c24] at H;have Kj := decide_eq_true c24;clear c24;obtain ⟨XW,Vt,H⟩ := bE H
            try dsimp only at H
            obtain ⟨Zr,bQ,H⟩ := bE H
            try dsimp only at H
            have H' := yf.mk H;clear H
            try go_wp2
            replace CW := yf.mk (Kd.DI CW.out);replace Bz := yf.mk (Kd.DI Bz.out);replace af := yf.mk (Kd.Pi af.out);replace ae := yf.mk (zl ae.out);replace aa := yf.mk (zl aa.out);replace HB := yf.mk (zt HB.out)
            have az : 0 ≤ (yP : Int) := of_decide_eq_true ‹_›
            have aA : yP < (Cv.length : Int) := of_decide_eq_true ‹_›
            obtain ⟨ag,aJ,aD,aG,aH⟩ := KY (Kd.zb CW.out).2.2 yP az aA;cases aJ;replace az := eq_true az;replace aA := eq_true aA
            have aX : 0 ≤ (BU : Int) := of_decide_eq_true ‹_›
            have bg : BU < (Cv.length : Int) := of_decide_eq_true ‹_›
            obtain ⟨bZ,cO,bC,bD,bF⟩ := KY (Kd.zb CW.out).2.2 BU aX bg;obtain rfl : ag = bZ := (by injection cO);replace aX := eq_true aX;replace bg := eq_true bg
            have ai : ah = 1 := of_decide_eq_true ‹_›
            have bL : (0 ≤ (ah : Int)) = True := eq_true (by rw [ai];decide)
            have bM : ((ah : Int) < 3) = True := eq_true (by rw [ai];decide)
            have bP : ∀ a : Addr,a.add (ah).toNat = ⟨a.block,a.off + 1,none⟩ := fun a => by rw [ai];rfl
            clear ai
            refine Bt (n := 18) (S := fun w' => w'.cell? (ag.add ((yP).toNat * 3)) = some (.int .i64 ((C9 Cv yP).f0)) ∧ w'.cell? ⟨(ag.add ((yP).toNat * 3)).block,(ag.add ((yP).toNat * 3)).off + 1,none⟩ = some (.int .i64 ((C9 Cv yP).f1)) ∧ w'.cell? ⟨(ag.add ((yP).toNat * 3)).block,(ag.add ((yP).toNat * 3)).off + 2,none⟩ = some (.int .i64 ((C9 Cv yP).f2)) ∧ w'.cell? (ag.add ((BU).toNat * 3)) = some (.int .i64 ((C9 Cv BU).f0)) ∧ w'.cell? ⟨(ag.add ((BU).toNat * 3)).block,(ag.add ((BU).toNat * 3)).off + 1,none⟩ = some (.int .i64 ((C9 Cv BU).f1)) ∧ w'.cell? ⟨(ag.add ((BU).toNat * 3)).block,(ag.add ((BU).toNat * 3)).off + 2,none⟩ = some (.int .i64 ((C9 Cv BU).f2))) (ds := []) (bz 18 0) (by kernel_rfl) rfl rfl ⟨aD,aG,aH,bC,bD,bF⟩ (fun hHeld => ?_);refine Ab yA.P5 yA.KZ (fun yJ Bv => ?_)
            generalize wr.drew = w27 at CW Bz af ae aa HB aD aG aH bC bD bF hHeld ⊢;refine pU 0 31 18 1 yJ ?_;refine pU 1 32 18 3 yJ ?_;refine pU 2 33 18 7 yJ ?_;refine pU 3 34 18 15 yJ ?_;refine pU 4 35 18 31 yJ ?_;refine pU 5 36 18 63 yJ ?_;refine pU 6 37 18 127 yJ ?_;refine pU 7 38 18 255 yJ ?_;refine pU 9 40 18 767 yJ ?_;refine pU 10 41 18 1791 yJ ?_;refine pU 11 42 18 3839 yJ ?_;refine pU 12 43 18 7935 yJ ?_;refine pU 13 44 18 16127 yJ ?_
            refine Co 8 39 18 16383 yJ Bv hHeld ?_
            refine Co 14 45 18 32767 yJ Bv hHeld ?_
            refine CB (i := 15) (N := some 46) (bz 18 65535) rfl rfl (Ar yJ.out (by kernel_rfl)) (by decide) (fun K hK => ?_)
            refine gO Tryz.func46 #[.int .i64 a0,.int .i64 ((C9 Cv yP).f1),.int .i64 ((C9 Cv BU).f1)] ?_
            with_reducible refine (yu.calls k3 a0 ((C9 Cv yP).f1) ((C9 Cv BU).f1) XW _ Vt.out).mono ?_
            rintro e w28 ⟨rfl,hb⟩;have ak := (hb.cell (World.block_lt_of_cell? _ _ (hHeld.1))).trans (hHeld.1);have au := (hb.cell (World.block_lt_of_cell? _ _ (hHeld.2.1))).trans (hHeld.2.1);have av := (hb.cell (World.block_lt_of_cell? _ _ (hHeld.2.2.1))).trans (hHeld.2.2.1);have ax := (hb.cell (World.block_lt_of_cell? _ _ (hHeld.2.2.2.1))).trans (hHeld.2.2.2.1);have KU := (hb.cell (World.block_lt_of_cell? _ _ (hHeld.2.2.2.2.1))).trans (hHeld.2.2.2.2.1);have ay := (hb.cell (World.block_lt_of_cell? _ _ (hHeld.2.2.2.2.2))).trans (hHeld.2.2.2.2.2)
            refine ⟨_,rfl,?_⟩
            replace CW := CR CW hb;replace Bz := CR Bz hb;replace af := Lj af hb;replace ae := bB ae hb;replace aa := bB aa hb;replace HB := bS HB hb;clear hb
            refine hK.out _ _ ⟨ak,au,av,ax,KU,ay⟩ (fun hHeld => ?_)
            clear hK K
            refine AU (a' := ?_) ?_ ?_
            rotate_left
            ·
             show Act.put _ (some 46) _ = _
             simp only [pz]
             rfl
            refine CB (i := 16) (N := some 47) (bz 18 131071) rfl rfl (Ar yJ.out (by kernel_rfl)) (by decide) (fun K hK => ?_)
            refine gO Tryz.func45 #[.int .i64 a0,.int .i64 F9,.int .i64 XW] ?_
            with_reducible refine (zm.calls k3 a0 F9 XW Zr _ bQ.out).mono ?_
            rintro e w29 ⟨rfl,hb⟩;have ak := (hb.cell (World.block_lt_of_cell? _ _ (hHeld.1))).trans (hHeld.1);have au := (hb.cell (World.block_lt_of_cell? _ _ (hHeld.2.1))).trans (hHeld.2.1);have av := (hb.cell (World.block_lt_of_cell? _ _ (hHeld.2.2.1))).trans (hHeld.2.2.1);have ax := (hb.cell (World.block_lt_of_cell? _ _ (hHeld.2.2.2.1))).trans (hHeld.2.2.2.1);have KU := (hb.cell (World.block_lt_of_cell? _ _ (hHeld.2.2.2.2.1))).trans (hHeld.2.2.2.2.1);have ay := (hb.cell (World.block_lt_of_cell? _ _ (hHeld.2.2.2.2.2))).trans (hHeld.2.2.2.2.2)
            refine ⟨_,rfl,?_⟩
            replace CW := CR CW hb;replace Bz := CR Bz hb;replace af := Lj af hb;replace ae := bB ae hb;replace aa := bB aa hb;replace HB := bS HB hb;clear hb
            refine hK.out _ _ ⟨ak,au,av,ax,KU,ay⟩ (fun hHeld => ?_)
            clear hK K
            refine AU (a' := ?_) ?_ ?_
            rotate_left
            ·
             show Act.put _ (some 47) _ = _
             simp only [pz]
             rfl
            refine pU 17 8 18 262143 yJ ?_
            refine Cn (AZ yJ.out (by kernel_rfl)) ?_
            try go_wp2
            go_roundg k3
            case measure => have := Bn.out;have := Di.out;have := Fx.out;omega
            case rel => exact ⟨(Zr),(wrap64 (ah + 1)),(by rfl),(by rfl),H',⟨by have := Bn.out;have := Di.out;have := Fx.out;omega⟩,⟨kR CW⟩,⟨kR Bz⟩,⟨kS af⟩,⟨kk ae⟩,⟨kk aa⟩,⟨bO HB⟩⟩
           ·
            rw [if_neg c24] at H;exact absurd H (by simp)
          ·
           rw [if_neg c23] at H;exact absurd H (by simp)
         ·
          rw [if_neg I4] at H;have JE := beq_eq_false_iff_ne.mpr I4;have cz := bne_iff_ne.mpr I4
          by_cases O6 : ah = 2
          ·
           rw [if_pos O6] at H;have VR := beq_iff_eq.mpr O6
           have a3z : (ah != 2) = false := bne_eq_false_iff_eq.mpr O6
           clear O6
           by_cases c31 : 0 ≤ BU
           ·
            rw [if_pos c31] at H;have Ox := decide_eq_true c31;clear c31
            by_cases c32 : BU < (Cv.length : Int)
            ·
             rw [if_pos c32] at H;have Ql := decide_eq_true c32;clear c32;obtain ⟨XX,A33,H⟩ := bE H
             try dsimp only at H
             obtain ⟨Zt,bR,H⟩ := bE H
             try dsimp only at H
             have H' := yf.mk H;clear H
             try go_wp2
             replace CW := yf.mk (Kd.DI CW.out);replace Bz := yf.mk (Kd.DI Bz.out);replace af := yf.mk (Kd.Pi af.out);replace ae := yf.mk (zl ae.out);replace aa := yf.mk (zl aa.out);replace HB := yf.mk (zt HB.out)
             have az : 0 ≤ (yP : Int) := of_decide_eq_true ‹_›
             have aA : yP < (Cv.length : Int) := of_decide_eq_true ‹_›
             obtain ⟨ag,aJ,aD,aG,aH⟩ := KY (Kd.zb CW.out).2.2 yP az aA;cases aJ;replace az := eq_true az;replace aA := eq_true aA
             have aY : 0 ≤ (BU : Int) := of_decide_eq_true ‹_›
             have bi : BU < (Cv.length : Int) := of_decide_eq_true ‹_›
             obtain ⟨cu,cZ,bH,bI,bJ⟩ := KY (Kd.zb CW.out).2.2 BU aY bi;obtain rfl : ag = cu := (by injection cZ);replace aY := eq_true aY;replace bi := eq_true bi
             have ai : ah = 2 := of_decide_eq_true ‹_›
             have bL : (0 ≤ (ah : Int)) = True := eq_true (by rw [ai];decide)
             have bM : ((ah : Int) < 3) = True := eq_true (by rw [ai];decide)
             have bP : ∀ a : Addr,a.add (ah).toNat = ⟨a.block,a.off + 2,none⟩ := fun a => by rw [ai];rfl
             clear ai
             refine Bt (n := 18) (S := fun w' => w'.cell? (ag.add ((yP).toNat * 3)) = some (.int .i64 ((C9 Cv yP).f0)) ∧ w'.cell? ⟨(ag.add ((yP).toNat * 3)).block,(ag.add ((yP).toNat * 3)).off + 1,none⟩ = some (.int .i64 ((C9 Cv yP).f1)) ∧ w'.cell? ⟨(ag.add ((yP).toNat * 3)).block,(ag.add ((yP).toNat * 3)).off + 2,none⟩ = some (.int .i64 ((C9 Cv yP).f2)) ∧ w'.cell? (ag.add ((BU).toNat * 3)) = some (.int .i64 ((C9 Cv BU).f0)) ∧ w'.cell? ⟨(ag.add ((BU).toNat * 3)).block,(ag.add ((BU).toNat * 3)).off + 1,none⟩ = some (.int .i64 ((C9 Cv BU).f1)) ∧ w'.cell? ⟨(ag.add ((BU).toNat * 3)).block,(ag.add ((BU).toNat * 3)).off + 2,none⟩ = some (.int .i64 ((C9 Cv BU).f2))) (ds := []) (bz 18 0) (by kernel_rfl) rfl rfl ⟨aD,aG,aH,bH,bI,bJ⟩ (fun hHeld => ?_);refine Ab yA.P5 yA.KZ (fun yJ Bv => ?_)
             generalize wr.drew = w35 at CW Bz af ae aa HB aD aG aH bH bI bJ hHeld ⊢;refine pU 0 31 18 1 yJ ?_;refine pU 1 32 18 3 yJ ?_;refine pU 2 33 18 7 yJ ?_;refine pU 3 34 18 15 yJ ?_;refine pU 4 35 18 31 yJ ?_;refine pU 5 36 18 63 yJ ?_;refine pU 6 37 18 127 yJ ?_;refine pU 7 38 18 255 yJ ?_;refine pU 9 40 18 767 yJ ?_;refine pU 10 41 18 1791 yJ ?_;refine pU 11 42 18 3839 yJ ?_;refine pU 12 43 18 7935 yJ ?_;refine pU 13 44 18 16127 yJ ?_
             refine Co 8 39 18 16383 yJ Bv hHeld ?_
             refine Co 14 45 18 32767 yJ Bv hHeld ?_
             refine CB (i := 15) (N := some 46) (bz 18 65535) rfl rfl (Ar yJ.out (by kernel_rfl)) (by decide) (fun K hK => ?_)
             refine gO Tryz.func46 #[.int .i64 a0,.int .i64 ((C9 Cv yP).f2),.int .i64 ((C9 Cv BU).f2)] ?_
             with_reducible refine (yu.calls k3 a0 ((C9 Cv yP).f2) ((C9 Cv BU).f2) XX _ A33.out).mono ?_
             rintro e w36 ⟨rfl,hb⟩;have ak := (hb.cell (World.block_lt_of_cell? _ _ (hHeld.1))).trans (hHeld.1);have au := (hb.cell (World.block_lt_of_cell? _ _ (hHeld.2.1))).trans (hHeld.2.1);have av := (hb.cell (World.block_lt_of_cell? _ _ (hHeld.2.2.1))).trans (hHeld.2.2.1);have ax := (hb.cell (World.block_lt_of_cell? _ _ (hHeld.2.2.2.1))).trans (hHeld.2.2.2.1);have KU := (hb.cell (World.block_lt_of_cell? _ _ (hHeld.2.2.2.2.1))).trans (hHeld.2.2.2.2.1);have ay := (hb.cell (World.block_lt_of_cell? _ _ (hHeld.2.2.2.2.2))).trans (hHeld.2.2.2.2.2)
             refine ⟨_,rfl,?_⟩
             replace CW := CR CW hb;replace Bz := CR Bz hb;replace af := Lj af hb;replace ae := bB ae hb;replace aa := bB aa hb;replace HB := bS HB hb;clear hb
             refine hK.out _ _ ⟨ak,au,av,ax,KU,ay⟩ (fun hHeld => ?_)
             clear hK K
             refine AU (a' := ?_) ?_ ?_
             rotate_left
             ·
              show Act.put _ (some 46) _ = _
              simp only [pz]
              rfl
             refine CB (i := 16) (N := some 47) (bz 18 131071) rfl rfl (Ar yJ.out (by kernel_rfl)) (by decide) (fun K hK => ?_)
             refine gO Tryz.func45 #[.int .i64 a0,.int .i64 F9,.int .i64 XX] ?_
             with_reducible refine (zm.calls k3 a0 F9 XX Zt _ bR.out).mono ?_
             rintro e w37 ⟨rfl,hb⟩;have ak := (hb.cell (World.block_lt_of_cell? _ _ (hHeld.1))).trans (hHeld.1);have au := (hb.cell (World.block_lt_of_cell? _ _ (hHeld.2.1))).trans (hHeld.2.1);have av := (hb.cell (World.block_lt_of_cell? _ _ (hHeld.2.2.1))).trans (hHeld.2.2.1);have ax := (hb.cell (World.block_lt_of_cell? _ _ (hHeld.2.2.2.1))).trans (hHeld.2.2.2.1);have KU := (hb.cell (World.block_lt_of_cell? _ _ (hHeld.2.2.2.2.1))).trans (hHeld.2.2.2.2.1);have ay := (hb.cell (World.block_lt_of_cell? _ _ (hHeld.2.2.2.2.2))).trans (hHeld.2.2.2.2.2)
             refine ⟨_,rfl,?_⟩
             replace CW := CR CW hb;replace Bz := CR Bz hb;replace af := Lj af hb;replace ae := bB ae hb;replace aa := bB aa hb;replace HB := bS HB hb;clear hb
             refine hK.out _ _ ⟨ak,au,av,ax,KU,ay⟩ (fun hHeld => ?_)
             clear hK K
             refine AU (a' := ?_) ?_ ?_
             rotate_left
             ·
              show Act.put _ (some 47) _ = _
              simp only [pz]
              rfl
             refine pU 17 8 18 262143 yJ ?_
             refine Cn (AZ yJ.out (by kernel_rfl)) ?_
             try go_wp2
             go_roundg k3
             case measure => have := Bn.out;have := Di.out;have := Fx.out;omega
             case rel => exact ⟨(Zt),(wrap64 (ah + 1)),(by rfl),(by rfl),H',⟨by have := Bn.out;have := Di.out;have := Fx.out;omega⟩,⟨kR CW⟩,⟨kR Bz⟩,⟨kS af⟩,⟨kk ae⟩,⟨kk aa⟩,⟨bO HB⟩⟩
            ·
             rw [if_neg c32] at H;exact absurd H (by simp)
           ·
            rw [if_neg c31] at H;exact absurd H (by simp)
          ·
           rw [if_neg O6] at H;exact absurd H (by simp)
       ·
        rw [if_neg c13] at H;exact absurd H (by simp)
      ·
       rw [if_neg c12] at H;exact absurd H (by simp)
     ·
      rw [if_neg c11] at H;have Fv := decide_eq_false c11;clear c11
      by_cases Gq : F9 = 0
      ·
       rw [if_pos Gq] at H;have J4 := beq_iff_eq.mpr Gq
       have VW : (F9 != 0) = false := bne_eq_false_iff_eq.mpr Gq
       clear Gq
       by_cases Il : Dm.length < 17592186044416
       ·
        rw [if_pos Il] at H;have bU := yf.mk Il;clear Il;obtain ⟨bN,aV⟩ : ∃ y_ : List Int,y_ = (Dm ++ [BU]) := ⟨_,rfl⟩
        replace H : (yA.l1 k3 a0 Cv yP bN (wrap64 (BU + 1)) (Cv.length : Int) aj) = some (r1,r2) := by (rw [aV];with_reducible exact H)
        have bX := yf.mk aV;clear aV;have H' := yf.mk H;clear H
        go_wp2_with (((with_reducible refine Bf (b := .append) (xs := #[.tmp 50,.tmp 52]) rfl ?_);at_builtin;refine Kd.Dz (Kd.int .i64) (w0 := w) w.heap.size rfl (.tmp 50) (.tmp 52) 37 3 (.int .i64 0) 8 rfl Tryz.underlying37 info3 rfl (by decide) (by omega) u6 Dm BU [.int .i64 BU] (fun _ => True) (fun _ => False) rfl rfl ?aP (fun _ hk => hk.elim) ?aF ?aO ?aB ?aS ?aL ?_;(case aP => exact rfl);(case aB => exact (bO HB));(case aF => exact (fun _ _ => trivial));(case aO => exact (kR Bz));(case aS => exact (yF (bO HB)));(case aL => have := bU.out;omega);intro v452 w40 ho hb hg hat;rw [← bX.out] at ho;have BR := yf.mk (Kd.Jl (kR CW) (Kd.Ii (kR Bz)) (by decide) hg);have BS := yf.mk (Kd.MB (ok := (fun _ => True)) (by (with_reducible repeat (apply Kd.Be));exact Kd.BI af.out (fun _ hk => ⟨trivial,hk⟩)) hg hat);have Ce := yf.mk (zL (g := aI) (o := .cells #[.int .i64 0,.slice none 0 0] 27 (0,0)) (kk ae) hg (Kd.DC Bz.out ae.out (by decide)));have CZ := yf.mk (zL (g := aC) (o := .cells #[.int .i64 (Cv.length : Int),u438001] 27 (0,0)) (kk aa) hg (Kd.DC Bz.out aa.out (by decide)));have Dx := yf.mk (hb);have E5 := yf.mk (ho);clear CW;clear af;clear ae;clear aa;clear HB;clear Bz;have CW := BR;have af := BS;have ae := Ce;have aa := CZ;have HB := Dx;have bT := E5;clear BR BS Ce CZ Dx E5;clear ho hb hg hat))
        go_roundg k3
        case measure => have := Bn.out;have := Di.out;have := Fx.out;omega
        case rel => exact ⟨(bN),(wrap64 (BU + 1)),(by rfl),H',⟨by have := Bn.out;have := Di.out;have := Fx.out;omega⟩,⟨kR CW⟩,⟨kR bT⟩,⟨by (with_reducible repeat (apply Kd.Be));exact Kd.BI af.out (fun _ hk => hk.2)⟩,⟨kk ae⟩,⟨kk aa⟩,⟨bO HB⟩⟩
       ·
        rw [if_neg Il] at H;exact absurd H (by simp)
      ·
       rw [if_neg Gq] at H;have J4 := beq_eq_false_iff_ne.mpr Gq;have VW := bne_iff_ne.mpr Gq;have H' := yf.mk H;clear H
       go_wp2
       go_roundg k3
       case measure => have := Bn.out;have := Di.out;have := Fx.out;omega
       case rel => exact ⟨(Dm),(wrap64 (BU + 1)),(by rfl),H',⟨by have := Bn.out;have := Di.out;have := Fx.out;omega⟩,⟨kR CW⟩,⟨kR Bz⟩,⟨kS af⟩,⟨kk ae⟩,⟨kk aa⟩,⟨bO HB⟩⟩
  ·
   rw [if_neg c10] at H;have Fu := decide_eq_false c10;clear c10
   by_cases Jy : aj.length < 5864062014805
   ·
    rw [if_pos Jy] at H;have bV := yf.mk Jy;clear Jy;obtain ⟨bn,aU⟩ : ∃ y_ : List (List Int),y_ = (aj ++ [Dm]) := ⟨_,rfl⟩
    replace H : (yA.l0 k2 a0 Cv (wrap64 (yP + 1)) (Cv.length : Int) bn) = some (r1,r2) := by (rw [aU];with_reducible exact H)
    have bW := yf.mk aU;clear aU;have H' := yf.mk H;clear H;have a0x := aQ.out;have a0O := aN.out;have a08 := bc2 aa;have a0l := bf aa;obtain ⟨Yt,Wm,WA⟩ := Kd.zB Bz.out;subst WA
    go_wp2_with (((with_reducible refine Bf (b := .append) (xs := #[.tmp 55,.tmp 57]) rfl ?_);at_builtin;refine Kd.VD (Kd.slice 3 (Kd.int .i64)) (w0 := w) w.heap.size rfl (.tmp 55) (.tmp 57) 25 37 (.slice none 0 0) 24 rfl Tryz.underlying25 PK rfl (by decide) (by omega) u438001 aj Dm [.slice Yt Dm.length Wm] (fun _ => True) (fun k_ => some k_ = (.slice Yt Dm.length Wm : Value).ownBlock) rfl rfl ?aP (fun k_ Cg => ((Kd.zf (ok' := fun k_ => ((fun _ => True)) k_ ∧ some k_ ≠ (u438001 : Value).ownBlock) (Kd.K9 (Bz.out) (Kd.Jn af.out) (by decide)) (fun k_ hk => ⟨trivial,hk.2⟩))).1 k_ Cg.symm) ?aF ?aO ?aB ?aS ?aL ?_;(case aP => exact Kd.Tm (Kd.zf (Kd.Gm rfl (Kd.zf (ok' := fun k_ => ((fun _ => True)) k_ ∧ some k_ ≠ (u438001 : Value).ownBlock) (Kd.K9 (Bz.out) (Kd.Jn af.out) (by decide)) (fun k_ hk => ⟨trivial,hk.2⟩))) (fun _ h_ => h_)));(case aB => exact (bO HB));(case aF => exact (fun _ _ => trivial));(case aO => exact (by (with_reducible repeat (apply Kd.Be));exact Kd.BI af.out (fun k_ hk => ⟨trivial,fun e_ => hk e_⟩)));(case aS => exact (yF (bO HB)));(case aL => have := bV.out;omega);intro v439 w44 ho hb hg hat;rw [← bW.out] at ho;have BR := yf.mk (Kd.Jl (kR CW) (Kd.Jn (kS af)) (by decide) hg);have BS := yf.mk (zL (g := aI) (o := .cells #[.int .i64 0,.slice none 0 0] 27 (0,0)) (kk ae) hg (Kd.YE af.out ae.out (by decide)));have Ce := yf.mk (zL (g := aC) (o := .cells #[.int .i64 (Cv.length : Int),u438001] 27 (0,0)) (kk aa) hg (Kd.YE af.out aa.out (by decide)));have CZ := yf.mk (hb);have Dx := yf.mk (ho);clear CW;clear ae;clear aa;clear HB;clear af;clear Bz;have CW := BR;have ae := BS;have aa := Ce;have HB := CZ;have bq := Dx;clear BR BS Ce CZ Dx;clear ho hb hg hat;obtain ⟨Yu,YU,Sy⟩ := Kd.EM bq.out;subst Sy;have WP := bc2 aa;have WU := bf aa))
    go_roundg k2
    case measure => have := Bn.out;have := Di.out;omega
    case rel => exact ⟨(wrap64 (yP + 1)),(bn),(.slice Yu bn.length YU),(by rfl),H',⟨by have := Bn.out;have := Di.out;omega⟩,⟨by (with_reducible repeat (apply Kd.zg));exact Kd.zf (GG (g := aC) (Kd.Bw CW.out aa.out (by decide)) (fun _ hk => hk.2)) (fun _ hk => trivial)⟩,⟨by (with_reducible repeat (apply Kd.Be));exact Kd.BI (MG (g := aC) (Kd.C8 bq.out aa.out (by decide)) (fun _ hk => hk.2)) (fun _ hk => trivial)⟩,bK ae rfl,bK aa rfl,⟨bO HB⟩⟩
   ·
    rw [if_neg Jy] at H;exact absurd H (by simp)
end Go.Proofs.YtjonnfmoocijlaaGreat.P
