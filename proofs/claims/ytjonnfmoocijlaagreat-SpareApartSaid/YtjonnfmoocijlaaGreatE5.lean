/- Texts of a claim, packed. -/
import Derived.Test.YtjonnfmoocijlaaGreatE4
set_option linter.all false
namespace Go.Proofs.YtjonnfmoocijlaaGreat.P
open Go.RowKit Go.Proofs.YtjonnfmoocijlaaGreatKW.PrintWords Go.Proofs.YtjonnfmoocijlaaGreatKW.PrintLast Go.Proofs.YtjonnfmoocijlaaGreatKW.PrintMore
attribute [local go_sem] zN zP Af Ag zz zA zO zQ
mutual
def yo.l0 : Nat → Int → Int → List Int → Int → Int → Option (Int × (List (List Int)))
 | 0,_,_,_,_,_ => none
 | k + 1,x0,x1,x6,x7,aa => if x7 < x1 then (if 0 ≤ x7 then (if x7 < (x6.length : Int) then (yo.l0 k x0 x1 (x6.set (x7 : Int).toNat x7) (wrap64 (x7 + 1)) aa) else (none)) else (none)) else (yo.l1 k x0 x1 x6 aa ([] : List (List Int)))
def yo.l1 : Nat → Int → Int → List Int → Int → List (List Int) → Option (Int × (List (List Int)))
 | 0,_,_,_,_,_ => none
 | k + 1,x0,x1,x6,aa,ae => (some (([] : List Int) : List Int)).bind fun Rn => (if Rn.length + x6.length < 17592186044416 then (if ae.length < 5864062014805 then (yo.l2 k x0 x1 x6 (wrap64 (x1 - 1)) aa (ae ++ [(Rn ++ x6)])) else (none)) else (none))
def yo.j3 : Nat → Int → Int → List Int → Int → Int → List (List Int) → Option (Int × (List (List Int)))
 | 0,_,_,_,_,_,_ => none
 | k + 1,x0,x1,x6,x8,aa,ae => if x8 < 0 then (some (aa,ae)) else (if 0 ≤ x8 then (if x8 < (x6.length : Int) then (yo.l3 k x0 x1 (x6.set (x8 : Int).toNat (wrap64 ((rd x6 x8) + 1))) (wrap64 (x8 + 1)) aa ae) else (none)) else (none))
def yo.l3 : Nat → Int → Int → List Int → Int → Int → List (List Int) → Option (Int × (List (List Int)))
 | 0,_,_,_,_,_,_ => none
 | k + 1,x0,x1,x6,x9,aa,ae => if x9 < x1 then (if 0 ≤ (wrap64 (x9 - 1)) then (if (wrap64 (x9 - 1)) < (x6.length : Int) then (if 0 ≤ x9 then (if x9 < (x6.length : Int) then (yo.l3 k x0 x1 (x6.set (x9 : Int).toNat (wrap64 ((rd x6 (wrap64 (x9 - 1))) + 1))) (wrap64 (x9 + 1)) aa ae) else (none)) else (none)) else (none)) else (none)) else (yo.l1 k x0 x1 x6 aa ae)
def yo.l2 : Nat → Int → Int → List Int → Int → Int → List (List Int) → Option (Int × (List (List Int)))
 | 0,_,_,_,_,_,_ => none
 | k + 1,x0,x1,x6,x8,aa,ae => if x8 ≥ 0 then (if 0 ≤ x8 then (if x8 < (x6.length : Int) then (if (rd x6 x8) = (wrap64 ((wrap64 (x0 - x1)) + x8)) then (yo.l2 k x0 x1 x6 (wrap64 (x8 - 1)) aa ae) else (yo.j3 k x0 x1 x6 x8 aa ae)) else (none)) else (none)) else (yo.j3 k x0 x1 x6 x8 aa ae)
end
def yo.f (k : Nat) (a0 : Int) (a1 : Int) : Option (Int × (List (List Int))) := if 0 ≤ a1 then (if (a1 : Int).toNat ≤ 35184372088832 then (yo.l0 k a0 a1 (List.replicate (a1 : Int).toNat 0) 0 a0) else (none)) else (none)
theorem yo.mono_l : ∀ k,(∀ y0 y1 y2 y3 y4,Bh (yo.l0 k y0 y1 y2 y3 y4) (yo.l0 (k + 1) y0 y1 y2 y3 y4)) ∧ (∀ y0 y1 y2 y3 y4,Bh (yo.l1 k y0 y1 y2 y3 y4) (yo.l1 (k + 1) y0 y1 y2 y3 y4)) ∧ (∀ y0 y1 y2 y3 y4 y5,Bh (yo.j3 k y0 y1 y2 y3 y4 y5) (yo.j3 (k + 1) y0 y1 y2 y3 y4 y5)) ∧ (∀ y0 y1 y2 y3 y4 y5,Bh (yo.l3 k y0 y1 y2 y3 y4 y5) (yo.l3 (k + 1) y0 y1 y2 y3 y4 y5)) ∧ (∀ y0 y1 y2 y3 y4 y5,Bh (yo.l2 k y0 y1 y2 y3 y4 y5) (yo.l2 (k + 1) y0 y1 y2 y3 y4 y5))
 | 0 => ⟨fun _ _ _ _ _ r h => by simp [yo.l0] at h,fun _ _ _ _ _ r h => by simp [yo.l1] at h,fun _ _ _ _ _ _ r h => by simp [yo.j3] at h,fun _ _ _ _ _ _ r h => by simp [yo.l3] at h,fun _ _ _ _ _ _ r h => by simp [yo.l2] at h⟩
 | k + 1 => by
  obtain ⟨Fz,ih1,ih2,ih3,Rv⟩ := yo.mono_l k
  refine ⟨?_,?_,?_,?_,?_⟩
  ·
   intro y0 y1 y2 y3 y4
   unfold yo.l0
   repeat' first
   | exact Fz _ _ _ _ _
   | exact ih1 _ _ _ _ _
   | exact ih2 _ _ _ _ _ _
   | exact ih3 _ _ _ _ _ _
   | exact Rv _ _ _ _ _ _
   | exact Bh.refl _
   | exact Bh.none _
   | refine Bh.ite ?_ ?_
   | refine Bh.bind ?_ (fun _ => ?_)
  ·
   intro y0 y1 y2 y3 y4
   unfold yo.l1
   repeat' first
   | exact Fz _ _ _ _ _
   | exact ih1 _ _ _ _ _
   | exact ih2 _ _ _ _ _ _
   | exact ih3 _ _ _ _ _ _
   | exact Rv _ _ _ _ _ _
   | exact Bh.refl _
   | exact Bh.none _
   | refine Bh.ite ?_ ?_
   | refine Bh.bind ?_ (fun _ => ?_)
  ·
   intro y0 y1 y2 y3 y4 y5
   unfold yo.j3
   repeat' first
   | exact Fz _ _ _ _ _
   | exact ih1 _ _ _ _ _
   | exact ih2 _ _ _ _ _ _
   | exact ih3 _ _ _ _ _ _
   | exact Rv _ _ _ _ _ _
   | exact Bh.refl _
   | exact Bh.none _
   | refine Bh.ite ?_ ?_
   | refine Bh.bind ?_ (fun _ => ?_)
  ·
   intro y0 y1 y2 y3 y4 y5
   unfold yo.l3
   repeat' first
   | exact Fz _ _ _ _ _
   | exact ih1 _ _ _ _ _
   | exact ih2 _ _ _ _ _ _
   | exact ih3 _ _ _ _ _ _
   | exact Rv _ _ _ _ _ _
   | exact Bh.refl _
   | exact Bh.none _
   | refine Bh.ite ?_ ?_
   | refine Bh.bind ?_ (fun _ => ?_)
  ·
   intro y0 y1 y2 y3 y4 y5
   unfold yo.l2
   repeat' first
   | exact Fz _ _ _ _ _
   | exact ih1 _ _ _ _ _
   | exact ih2 _ _ _ _ _ _
   | exact ih3 _ _ _ _ _ _
   | exact Rv _ _ _ _ _ _
   | exact Bh.refl _
   | exact Bh.none _
   | refine Bh.ite ?_ ?_
   | refine Bh.bind ?_ (fun _ => ?_)
theorem yo.mono : ∀ a0 a1 k,Bh (yo.f k a0 a1) (yo.f (k + 1) a0 a1) := by
 intro a0 a1 k
 obtain ⟨Fz,ih1,ih2,ih3,Rv⟩ := yo.mono_l k
 unfold yo.f
 repeat' first
  | exact Fz _ _ _ _ _
  | exact ih1 _ _ _ _ _
  | exact ih2 _ _ _ _ _ _
  | exact ih3 _ _ _ _ _ _
  | exact Rv _ _ _ _ _ _
  | exact Bh.refl _
  | exact Bh.none _
  | refine Bh.ite ?_ ?_
  | refine Bh.bind ?_ (fun _ => ?_)
def yo.T7 : Bool × List (List Nat × List Nat) := (true,[([],[]),([0],[0]),([],[]),([],[]),([2,3],[2,3]),([4],[4]),([1,5,4],[1,5]),([0,1,2,3,4,5,6],[]),([7,6,6,0,1,2,3,4,5,6],[6,7])])
def yo.B7 : List Nat := [0,1,0,0,12,28,63,127,255]
theorem yo.PX : Dv .any (opsOf Tryz.f16 7) = yo.T7 := by kernel_rfl
theorem yo.Ke : BH yo.T7.2 yo.B7 = true := by kernel_rfl
set_option maxHeartbeats 8000000 in
set_option maxRecDepth 100000 in
theorem yo.calls (k : Nat) (a0 : Int) (a1 : Int) (r1 : Int) (r2 : List (List Int)) (w : World) (h : yo.f k a0 a1 = some (r1,r2)) :
  Calls Tryz.prog 16 #[.int .i64 a0,.int .i64 a1] w fun e w' => ∃ Us : Value,e = .returned (.agg #[.int .i64 r1,Us]) ∧ Kd.S (Kd.slice 3 (Kd.int .i64)) 37 w' w.heap.size (fun _ => True) Us r2 ∧ Below w.heap.size w w' := by
 have UQ := Tryz.underlying27;have HB := yf.mk (Below.refl w.heap.size w)
 have H : (if 0 ≤ a1 then (if (a1 : Int).toNat ≤ 35184372088832 then (yo.l0 k a0 a1 (List.replicate (a1 : Int).toNat 0) 0 a0) else (none)) else (none)) = some (r1,r2) := h
 clear h
 by_cases c3 : 0 ≤ a1
 rotate_left
 ·
  rw [if_neg c3] at H;exact absurd H (by simp)
 rw [if_pos c3] at H;have Gz := eq_true c3;have Nh := decide_eq_true c3;clear c3
 by_cases c4 : (a1 : Int).toNat ≤ 35184372088832
 rotate_left
 ·
  rw [if_neg c4] at H;exact absurd H (by simp)
 rw [if_pos c4] at H;have ER := eq_true c4;have Mh := decide_eq_true c4;clear c4;obtain ⟨bL,aT⟩ : ∃ y_ : List Int,y_ = (List.replicate (a1 : Int).toNat 0) := ⟨_,rfl⟩
 replace H : (yo.l0 k a0 a1 bL 0 a0) = some (r1,r2) := by (rw [aT];with_reducible exact H)
 have bQ := yf.mk aT;clear aT;have H' := yf.mk H;clear H
 go_enter Tryz.func16,Tryz.ntmps16
 go_wp2_with (first | ((with_reducible refine yG (N := 4) rfl ?_);refine yD rfl (N := 4) rfl (cs := #[.int .i64 0,.slice none 0 0]) (t := 27) (by go_simp) ?_;intro EF hg w5 yI hb;have Ak := yf.mk (yI);have ZH := bG (w := w) hg;have ZE := bG (w := w) hg;replace HB := bS HB hb;clear hb yI hg) | ((with_reducible refine yG (N := 5) rfl ?_);refine yD rfl (N := 5) rfl (cs := #[.int .i64 0,.slice none 0 0]) (t := 27) (by go_simp) ?_;intro aj hg w6 yI hb;have aa := yf.mk (yI);have di := bG (w := w) hg;have df := bG (w := w) hg;have aN := Cq Ak hg;have aQ := Aq Ak hg;replace Ak := bB Ak hb;replace HB := bS HB hb;clear hb yI hg;have a2r := aQ.out;have a2A := aN.out;have QD := bc2 aa;have QJ := bf aa) | ((with_reducible refine yG (N := 13) rfl ?_);refine Kd.MW (Kd.int .i64) _ 3 rfl (N := 13) rfl 37 _ _ rfl a1 rfl rfl Tryz.underlying37 (.int .i64 0) 8 info3 rfl (by decide) (by omega) 0 (ok := fun _ => True) (okp := fun _ => True) rfl (fun _ hk => hk) trivial (of_decide_eq_true ‹_›) (Nat.le_trans (Nat.mul_le_mul_right _ (of_decide_eq_true ‹_› : a1.toNat ≤ 35184372088832)) (by omega)) (Below.refl _ _) (Nat.le_refl _) ?_;intro v233 w9 SK hb JY DL;clear JY DL;(rw [← bQ.out] at SK);have bM := yf.mk (Kd.AC SK (yF (bO HB)));replace Ak := yf.mk (yZ (g := EF) (o := .cells #[.int .i64 0,.slice none 0 0] 27 (0,0)) (CY Ak rfl) hb);replace aa := yf.mk (yZ (g := aj) (o := .cells #[.int .i64 a0,.slice none 0 0] 27 (0,0)) (CY aa rfl) hb);replace HB := bS HB hb;clear hb SK))
 go_loopg [7] k (fun kq v7 w' => ∃ (Bi : List Int) (Am : Int),v7 = .int .i64 Am ∧ yf (yo.l0 kq a0 a1 Bi Am a0 = some (r1,r2)) ∧ yf (kq ≤ k) ∧ yf (Kd.R (Kd.int .i64) 3 w' w.heap.size (fun _ => True) v233 Bi) ∧ yf (w'.heap[EF]? = some (.cells #[.int .i64 0,(.slice none 0 0)] 27 (0,0))) ∧ yf (w'.heap[aj]? = some (.cells #[.int .i64 a0,(.slice none 0 0)] 27 (0,0))) ∧ yf (Below w.heap.size w w'))
 case atStart => exact ⟨(bL),(0),(by rfl),H',⟨Nat.le_refl _⟩,⟨kR bM⟩,⟨kk Ak⟩,⟨kk aa⟩,⟨bO HB⟩⟩
 case round =>
 clear H' Gz Nh ER Mh QD QJ;obtain ⟨Bi,Am,rfl,HA,Bn,Bz,Ak,aa,HB⟩ := hrel
 cases gk with
 | zero => exact absurd HA.out (by simp [yo.l0])
 | succ k1 =>
 have H := HA.out;clear HA;simp only [yo.l0] at H
 by_cases c11 : Am < a1
 ·
  rw [if_pos c11] at H;have Fv := decide_eq_true c11;clear c11
  by_cases c12 : 0 ≤ Am
  rotate_left
  ·
   rw [if_neg c12] at H;exact absurd H (by simp)
  rw [if_pos c12] at H;have Gj := decide_eq_true c12;clear c12
  by_cases c13 : Am < (Bi.length : Int)
  rotate_left
  ·
   rw [if_neg c13] at H;exact absurd H (by simp)
  rw [if_pos c13] at H;have J3 := decide_eq_true c13;clear c13;obtain ⟨bq,aU⟩ : ∃ y_ : List Int,y_ = (Bi.set (Am : Int).toNat Am) := ⟨_,rfl⟩
  replace H : (yo.l0 k1 a0 a1 bq (wrap64 (Am + 1)) a0) = some (r1,r2) := by (rw [aU];with_reducible exact H)
  have bR := yf.mk aU;clear aU;have H' := yf.mk H;clear H
  have p14 : 0 ≤ (Am : Int) := of_decide_eq_true ‹_›
  have q14 : (Am : Int) < ((Bi.length : Int) : Int) := of_decide_eq_true ‹_›
  obtain ⟨SC,UC,Ns,WG,a2c,a5L,VA⟩ := Kd.Hm Bz.out (by omega)
  (cases Ns)
  have a3n := yf.mk WG;have a3o := yf.mk VA;clear WG a2c VA;obtain ⟨Xp,WS⟩ := Kd.Fh 0 Bz.out (Am : Int) p14 q14;replace p14 := eq_true p14;replace q14 := eq_true q14;have aK := Kd.KW Bz.out (Am : Int) Am
  go_wp2_with (((with_reducible refine F8 (t := 3) (p := 22) rfl ?_);refine EI (t := 3) (p := 22) (v := ?vo_w16) (w1 := (wr.setCell ⟨SC,(Am : Int).toNat,none⟩ (.int .i64 Am))) ?hg ?ho ?hn ?hr ?_;(case ho => rfl);(case hg => rfl);(case hn => rfl);(case hr => go_simp);intro w16 hw;have hg : wr.grownBy w16 (some SC) := (by rw [hw];exact aK.2);have OL : Kd.R (Kd.int .i64) 3 w16 w.heap.size (fun _ => True) (.slice (some ⟨SC,0,none⟩) Bi.length UC) bq := (by rw [hw,bR.out];exact aK.1);clear aK;have BR := yf.mk (OL);have BS := yf.mk (zL (g := EF) (o := .cells #[.int .i64 0,.slice none 0 0] 27 (0,0)) (kk Ak) hg (Kd.DC Bz.out Ak.out (by decide)));have Ce := yf.mk (zL (g := aj) (o := .cells #[.int .i64 a0,.slice none 0 0] 27 (0,0)) (kk aa) hg (Kd.DC Bz.out aa.out (by decide)));have CZ := yf.mk ((by rw [hw];exact Dw (HB.out) a3n.out : Below w.heap.size w w16));clear Bz;clear Ak;clear aa;clear HB;have Bz := BR;have Ak := BS;have aa := Ce;have HB := CZ;clear BR BS Ce CZ;clear hg hw OL))
  go_roundg k1
  case measure => have := Bn.out;omega
  case rel => exact ⟨(bq),(wrap64 (Am + 1)),(by rfl),H',⟨by have := Bn.out;omega⟩,⟨kR Bz⟩,⟨kk Ak⟩,⟨kk aa⟩,⟨bO HB⟩⟩
 rw [if_neg c11] at H;have Fv := decide_eq_false c11;clear c11;have H' := yf.mk H;clear H
 go_wp2
 go_loopg [] k1 (fun kq w' => ∃ (Dm : List Int) (ax : Int) (ay : List (List Int)) (u232001 : Value),yf (yo.l1 kq a0 a1 Dm a0 ay = some (r1,r2)) ∧ yf (kq ≤ k1) ∧ yf (Kd.R (Kd.int .i64) 3 w' w.heap.size (fun _ => True) v233 Dm) ∧ yf (Kd.S (Kd.slice 3 (Kd.int .i64)) 37 w' w.heap.size (fun k_ => some k_ ≠ (v233 : Value).ownBlock) u232001 ay) ∧ yf (w'.heap[EF]? = some (.cells #[.int .i64 ax,(.slice none 0 0)] 27 (0,0))) ∧ yf (w'.heap[aj]? = some (.cells #[.int .i64 a0,u232001] 27 (0,0))) ∧ yf (Below w.heap.size w w'))
 case atStart => exact ⟨(Bi),(0),(([] : List (List Int))),(.slice none 0 0),H',⟨Nat.le_refl _⟩,⟨kR Bz⟩,⟨by exact Kd.VE _ _ _ _ _⟩,⟨kk Ak⟩,⟨kk aa⟩,⟨bO HB⟩⟩
 case round =>
 clear H' Fv;obtain ⟨Dm,ax,ay,u232001,HA,Di,Bz,ae,Ak,aa,HB⟩ := hrel
 cases gk with
 | zero => exact absurd HA.out (by simp [yo.l1])
 | succ k2 =>
  have H := HA.out;clear HA;simp only [yo.l1] at H;obtain ⟨Rn,aV⟩ : ∃ y_ : List Int,y_ = (([] : List Int)) := ⟨_,rfl⟩
  replace H : (if Rn.length + Dm.length < 17592186044416 then (if ay.length < 5864062014805 then (yo.l2 k2 a0 a1 Dm (wrap64 (a1 - 1)) a0 (ay ++ [(Rn ++ Dm)])) else (none)) else (none)) = some (r1,r2) := by (have H2_ := (Option.bind_some _ _).symm.trans H;rw [aV];with_reducible exact H2_)
  have bT := yf.mk aV;clear aV
  by_cases c17 : Rn.length + Dm.length < 17592186044416
  ·
   rw [if_pos c17] at H;have bN := yf.mk c17;clear c17;obtain ⟨aC,aW⟩ : ∃ y_ : List Int,y_ = (Rn ++ Dm) := ⟨_,rfl⟩
   replace H : (if ay.length < 5864062014805 then (yo.l2 k2 a0 a1 Dm (wrap64 (a1 - 1)) a0 (ay ++ [aC])) else (none)) = some (r1,r2) := by (rw [aW];with_reducible exact H)
   have bU := yf.mk aW;clear aW
   by_cases c18 : ay.length < 5864062014805
   ·
    rw [if_pos c18] at H;have bP := yf.mk c18;clear c18;obtain ⟨af,aX⟩ : ∃ y_ : List (List Int),y_ = (ay ++ [aC]) := ⟨_,rfl⟩
    replace H : (yo.l2 k2 a0 a1 Dm (wrap64 (a1 - 1)) a0 af) = some (r1,r2) := by (rw [aX];with_reducible exact H)
    have bV := yf.mk aX;clear aX;have RH := yf.mk H;clear H
    try go_wp2
    replace Bz := yf.mk (Kd.DI Bz.out);replace ae := yf.mk (Kd.Pi ae.out);replace Ak := yf.mk (zl Ak.out);replace aa := yf.mk (zl aa.out);replace HB := yf.mk (zt HB.out)
    refine Bt (n := 9) (S := fun w' => w'.cell? ⟨aj,0,none⟩ = some (.int .i64 a0) ∧ w'.cell? ⟨aj,1,none⟩ = some (u232001)) (ds := [8]) (bz 9 0) (by kernel_rfl) rfl rfl (bc2 aa) (fun hHeld => ?_);refine Ab yo.PX yo.Ke (fun yJ Bv => ?_)
    generalize wr.drew = w20 at Bz ae Ak aa HB hHeld ⊢;refine pU 0 23 9 1 yJ ?_;refine pU 3 26 9 9 yJ ?_
    refine Co 1 24 9 11 yJ Bv hHeld ?_
    refine CB (i := 2) (N := some 25) (bz 9 15) rfl rfl (Ar yJ.out (by kernel_rfl)) (by decide) (fun K hK => ?_)
    refine Kd.MV (Kd.int .i64) _ 3 ?hg (N := 25) ?hd (xs := ([] : List Int)) (inner := []) (ok := fun _ => True) (okp := fun _ => True) ?hr ?hp (fun _ hk => hk) trivial (Below.refl _ _) (Nat.le_refl _) (by simp) ?_;(case hd => rfl);(case hg => rfl);(case hr => go_simp);(case hp => exact (BQ.none _ _))
    intro v237 w21 PG hb JY DL
    clear JY DL
    (rw [← bT.out] at PG)
    have BR := yf.mk (Kd.Bu (kR Bz) (Kd.Ba PG) hb);have BS := yf.mk (Kd.Gw (kS ae) (Kd.Ba PG) hb);have Ce := yf.mk (Kd.AC (Kd.CV PG (Kd.EL (kR Bz))) (yF (bO HB)));have CZ := bB Ak hb;have Dx := bB aa hb;have E5 := bS HB hb;clear Bz ae Ak aa HB;have Bz := BR;have ae := BS;have aI := Ce;have Ak := CZ;have aa := Dx;have HB := E5;clear BR BS Ce CZ Dx E5 hb PG;obtain ⟨O1,IL,a1P⟩ := Kd.zB Bz.out
    (subst a1P)
    refine hK.out _ _ (bc2 aa) (fun hHeld => ?_)
    clear hK K
    refine AU (a' := ?_) ?_ ?_
    rotate_left
    ·
     show Act.put _ (some 25) _ = _
     simp only [pz]
     rfl
    refine CB (i := 4) (N := some 27) (bz 9 31) rfl rfl (Ar yJ.out (by kernel_rfl)) (by decide) (fun K hK => ?_)
    refine Kd.JO (Kd.int .i64) (w0 := w) w.heap.size (by rfl) (.tmp 25) (.tmp 26) 37 3 (.int .i64 0) 8 rfl Tryz.underlying37 info3 rfl (by decide) (by omega) v237 Rn Dm _ _ _ (fun k_ => some k_ ≠ (.slice O1 Dm.length IL : Value).ownBlock) (fun _ => False) rfl rfl ?aO ?aR (fun _ _ h => h) (fun _ h => h.elim) ?aF ?aB ?aS ?aL ?_
    (case aR => repeat (exact (Kd.zb Bz.out).2.2))
    (case aB => exact (bO HB))
    (case aF => exact (fun k_ hk => Kd.fresh' (Kd.EL (kR Bz)) k_ hk))
    (case aO => exact (by (with_reducible repeat (apply Kd.zg));exact Kd.zf aI.out (fun _ hk => hk.2)))
    (case aS => exact (yF (bO HB)))
    (case aL => have := bN.out;omega)
    intro v240 w23 ho hb hg hat
    rw [← bU.out] at ho;replace Bz := yf.mk (Kd.Mx (ok := (fun _ => True)) (kR Bz) hg hat)
    replace ae := yf.mk (Kd.MB (ok := (fun k_ => some k_ ≠ (.slice O1 Dm.length IL : Value).ownBlock)) (kS ae) hg hat)
    replace Ak := yf.mk (zL (g := EF) (o := .cells #[.int .i64 ax,.slice none 0 0] 27 (0,0)) (kk Ak) hg (Kd.DC aI.out Ak.out (by decide)));replace aa := yf.mk (zL (g := aj) (o := .cells #[.int .i64 a0,u232001] 27 (0,0)) (kk aa) hg (Kd.DC aI.out aa.out (by decide)));have aJ := yf.mk (ho);replace HB := yf.mk (hb);clear ho hb hg hat;obtain ⟨Vu,UD,Wx⟩ := Kd.zB aJ.out
    (subst Wx)
    refine hK.out _ _ (bc2 aa) (fun hHeld => ?_)
    clear hK K
    refine AU (a' := ?_) ?_ ?_
    rotate_left
    ·
     show Act.put _ (some 27) _ = _
     simp only [pz]
     rfl
    refine CB (i := 5) (N := some 28) (bz 9 63) rfl rfl (Ar yJ.out (by kernel_rfl)) (by decide) (fun K hK => ?_)
    refine Ti (w1 := ?_) (v := ?_) (by rfl) rfl ?_ ?_
    rotate_left 2
    ·
     go_simp
     constructor
     ·
      rfl
     ·
      rfl
    refine hK.out _ _ ⟨(yx (Eh aa.out _) 0).trans rfl,(yx (Eh aa.out _) 1).trans rfl⟩ (fun hHeld => ?_)
    clear hK K
    refine AU (a' := ?_) ?_ ?_
    rotate_left
    ·
     show Act.put _ (some 28) _ = _
     simp only [pz]
     rfl
    refine CB (i := 6) (N := some 29) (bz 9 127) rfl rfl (Ar yJ.out (by kernel_rfl)) (by decide) (fun K hK => ?_)
    refine Kd.O5 (Kd.slice 3 (Kd.int .i64)) (w0 := w) w.heap.size (by rfl) (.tmp 24) (.tmp 28) 25 37 (.slice none 0 0) 24 rfl Tryz.underlying25 PK rfl (by decide) (by omega) u232001 ay aC [.slice Vu aC.length UD] (fun k_ => some k_ ≠ (.slice O1 Dm.length IL : Value).ownBlock) (fun k_ => some k_ = (.slice Vu aC.length UD : Value).ownBlock) rfl rfl ?aP (fun k_ Cg => ((Kd.zf (ok' := fun k_ => ((fun k_ => some k_ ≠ (.slice O1 Dm.length IL : Value).ownBlock)) k_ ∧ some k_ ≠ (u232001 : Value).ownBlock) (Kd.K9 (aJ.out) (Kd.Jn ae.out) (by decide)) (fun k_ hk => ⟨hk.1,hk.2⟩))).1 k_ Cg.symm) ?aF ?aO ?aB ?aS ?aL ?_
    (case aP => exact Kd.Tm (Kd.zf (Kd.Gm rfl (Kd.zf (ok' := fun k_ => ((fun k_ => some k_ ≠ (.slice O1 Dm.length IL : Value).ownBlock)) k_ ∧ some k_ ≠ (u232001 : Value).ownBlock) (Kd.K9 (aJ.out) (Kd.Jn ae.out) (by decide)) (fun k_ hk => ⟨hk.1,hk.2⟩))) (fun _ h_ => h_)))
    (case aB => exact (bO HB))
    (case aF => exact (fun k_ hk => Kd.fresh' (Kd.EL (kR Bz)) k_ hk))
    (case aO => exact (by (with_reducible repeat (apply Kd.Be));exact Kd.BI ae.out (fun k_ hk => ⟨hk.1,fun e_ => hk.2 e_⟩)))
    (case aS => exact (yF (bO HB)))
    (case aL => have := bP.out;omega)
    intro v243 w25 ho hb hg hat
    rw [← bV.out] at ho;replace Bz := yf.mk (Kd.Jl (kR Bz) (Kd.Jn (kS ae)) (by decide) hg);replace Ak := yf.mk (zL (g := EF) (o := .cells #[.int .i64 ax,.slice none 0 0] 27 (0,0)) (kk Ak) hg (Kd.YE ae.out Ak.out (by decide)));replace aa := yf.mk (zL (g := aj) (o := .cells #[.int .i64 a0,u232001] 27 (0,0)) (kk aa) hg (Kd.YE ae.out aa.out (by decide)));have bD := yf.mk (ho);replace HB := yf.mk (hb);clear ho hb hg hat;obtain ⟨Mf,Mo,a1Q⟩ := Kd.EM bD.out
    (subst a1Q)
    refine hK.out _ _ (bc2 aa) (fun hHeld => ?_)
    clear hK K
    refine AU (a' := ?_) ?_ ?_
    rotate_left
    ·
     show Act.put _ (some 29) _ = _
     simp only [pz]
     rfl
    refine pU 7 30 9 255 yJ ?_
    refine OO (i := 8) (N := none) (bz 9 511) rfl rfl (Ar yJ.out (by kernel_rfl)) (by decide) (fun K hK => ?_)
    have a4X : w25.cell? ⟨aj,1,none⟩ = some (u232001) := (yx aa.out 1).trans rfl
    have a0g := zy aa.out 1;have dB := aN.out;have dA := aQ.out
    refine Ia (w1 := ?_) (by rfl) rfl ?_ ?_
    rotate_left
    ·
     go_simp
     rfl
    refine hK.out _ _ ?_
    clear hK K
    refine Cn (AZ yJ.out (by kernel_rfl)) ?_
    go_upto_block 4 with (fail)
    go_cut [8] (fun v8 wc => ∃ (kq : Nat) (ag : Int),v8 = .int .i64 ag ∧ yf (yo.j3 kq a0 a1 Dm ag a0 af = some (r1,r2)) ∧ yf (kq ≤ k2) ∧ yf (Kd.R (Kd.int .i64) 3 wc w.heap.size (fun _ => True) (.slice O1 Dm.length IL) Dm) ∧ yf (Kd.S (Kd.slice 3 (Kd.int .i64)) 37 wc w.heap.size (fun k_ => some k_ ≠ ((.slice O1 Dm.length IL) : Value).ownBlock) (.slice Mf af.length Mo) af) ∧ yf (wc.heap[EF]? = some (.cells #[.int .i64 ax,(.slice none 0 0)] 27 (0,0))) ∧ yf (wc.heap[aj]? = some (.cells #[.int .i64 a0,(.slice Mf af.length Mo)] 27 (0,0))) ∧ yf (Below w.heap.size w wc))
    case first =>
     have H := RH.out;clear RH;have H' := yf.mk H;clear H
     go_wp2
     go_loopg [8] k2 (fun kq v8 w' => ∃ (F9 : Int),v8 = .int .i64 F9 ∧ yf (yo.l2 kq a0 a1 Dm F9 a0 af = some (r1,r2)) ∧ yf (kq ≤ k2) ∧ yf (Kd.R (Kd.int .i64) 3 w' w.heap.size (fun _ => True) (.slice O1 Dm.length IL) Dm) ∧ yf (Kd.S (Kd.slice 3 (Kd.int .i64)) 37 w' w.heap.size (fun k_ => some k_ ≠ ((.slice O1 Dm.length IL) : Value).ownBlock) (.slice Mf af.length Mo) af) ∧ yf (w'.heap[EF]? = some (.cells #[.int .i64 ax,(.slice none 0 0)] 27 (0,0))) ∧ yf (w'.heap[aj]? = some (.cells #[.int .i64 a0,(.slice Mf af.length Mo)] 27 (0,0))) ∧ yf (Below w.heap.size w w'))
     case atStart => exact ⟨(wrap64 (a1 - 1)),(by rfl),H',⟨Nat.le_refl _⟩,⟨by (with_reducible repeat (apply Kd.zg));exact Kd.zf (GG (g := aj) (Kd.Bw Bz.out aa.out (by decide)) (fun _ hk => hk.2)) (fun _ hk => trivial)⟩,⟨by (with_reducible repeat (apply Kd.Be));exact Kd.BI (MG (g := aj) (Kd.C8 bD.out aa.out (by decide)) (fun _ hk => hk.2)) (fun _ hk => hk.1)⟩,bK Ak rfl,bK aa rfl,⟨bO HB⟩⟩
     case round =>
      clear H';obtain ⟨F9,rfl,HA,Fx,Bz,ae,Ak,aa,HB⟩ := hrel
      cases gk with
      | zero => exact absurd HA.out (by simp [yo.l2])
      | succ k3 =>
       have H := HA.out;clear HA;simp only [yo.l2] at H
       by_cases L6 : F9 ≥ 0
       ·
        rw [if_pos L6] at H;have Ow := decide_eq_true L6;clear L6
        (skip)
        by_cases O6 : 0 ≤ F9
        ·
         rw [if_pos O6] at H;have VR := decide_eq_true O6;clear O6
         by_cases c31 : F9 < (Dm.length : Int)
         ·
          rw [if_pos c31] at H;have Ox := decide_eq_true c31;clear c31
          by_cases c32 : (rd Dm F9) = (wrap64 ((wrap64 (a0 - a1)) + F9))
          ·
           rw [if_pos c32] at H;have Ql := beq_iff_eq.mpr c32
           have cu : ((rd Dm F9) != (wrap64 ((wrap64 (a0 - a1)) + F9))) = false := bne_eq_false_iff_eq.mpr c32
           clear c32;have H' := yf.mk H;clear H
           have az : 0 ≤ (F9 : Int) := of_decide_eq_true ‹_›
           have aA : F9 < (Dm.length : Int) := of_decide_eq_true ‹_›
           obtain ⟨bY,e245,cO⟩ := Kd.BG (Kd.zb Bz.out).2.2 F9 az aA;cases e245;replace az := eq_true az;replace aA := eq_true aA
           go_wp2
           go_roundg k3
           case measure => have := Bn.out;have := Di.out;have := Fx.out;omega
           case rel => exact ⟨(wrap64 (F9 - 1)),(by rfl),H',⟨by have := Bn.out;have := Di.out;have := Fx.out;omega⟩,⟨kR Bz⟩,⟨kS ae⟩,⟨kk Ak⟩,⟨kk aa⟩,⟨bO HB⟩⟩
          ·
           rw [if_neg c32] at H;have Ql := beq_eq_false_iff_ne.mpr c32;have cu := bne_iff_ne.mpr c32;have H' := yf.mk H;clear H
           have az : 0 ≤ (F9 : Int) := of_decide_eq_true ‹_›
           have aA : F9 < (Dm.length : Int) := of_decide_eq_true ‹_›
           obtain ⟨bY,e245,cO⟩ := Kd.BG (Kd.zb Bz.out).2.2 F9 az aA;cases e245;replace az := eq_true az;replace aA := eq_true aA
           go_wp2
           go_meet
           case rel => exact ⟨_,(F9),(by rfl),H',⟨by have := Bn.out;have := Di.out;have := Fx.out;omega⟩,⟨kR Bz⟩,⟨kS ae⟩,⟨kk Ak⟩,⟨kk aa⟩,⟨bO HB⟩⟩
         ·
          rw [if_neg c31] at H;exact absurd H (by simp)
        ·
         rw [if_neg O6] at H;exact absurd H (by simp)
       ·
        rw [if_neg L6] at H;have Ow := decide_eq_false L6;clear L6
        (skip)
        have H' := yf.mk H;clear H
        go_wp2
        go_meet
        case rel => exact ⟨_,(F9),(by rfl),H',⟨by have := Bn.out;have := Di.out;have := Fx.out;omega⟩,⟨kR Bz⟩,⟨kS ae⟩,⟨kk Ak⟩,⟨kk aa⟩,⟨bO HB⟩⟩
    case rest =>
     clear RH;obtain ⟨kq,ag,rfl,HA,Pb,Bz,ae,Ak,aa,HB⟩ := hcut
     cases kq with
     | zero => exact absurd HA.out (by simp [yo.j3])
     | succ PM =>
      have H := HA.out;clear HA;simp only [yo.j3] at H
      by_cases VS : ag < 0
      ·
       rw [if_pos VS] at H;have bF := decide_eq_true VS;clear VS;simp only [Option.some.injEq,Prod.mk.injEq] at H;obtain ⟨rfl,rfl⟩ := H;have U0 := aQ.out;have Ub := aN.out;have Ku := bc2 aa;have KC := bf aa;have NC := bc2 Ak;have NH := bf Ak
       go_wp2
       refine bodyPost_ret (results_cell_row rfl _ _ EF 27 #[.int .i64 a0,.slice Mf af.length Mo] (0,0) _ rfl (CY Ak rfl) Tryz.underlying27 rfl (by kernel_rfl)) rfl ?_
       exact ⟨_,by rfl,by (with_reducible repeat (apply Kd.Be));exact Kd.BI (MG (g := EF) (Kd.C8 ae.out Ak.out (by decide)) (fun _ hk => hk.2)) (fun _ hk => trivial),bO HB⟩
      ·
       rw [if_neg VS] at H;have bF := decide_eq_false VS;clear VS
       by_cases c37 : 0 ≤ ag
       ·
        rw [if_pos c37] at H;have Kk := decide_eq_true c37;clear c37
        by_cases Gq : ag < (Dm.length : Int)
        ·
         rw [if_pos Gq] at H;have J4 := decide_eq_true Gq;clear Gq;obtain ⟨bu,aY⟩ : ∃ y_ : List Int,y_ = (Dm.set (ag : Int).toNat (wrap64 ((rd Dm ag) + 1))) := ⟨_,rfl⟩
         replace H : (yo.l3 PM a0 a1 bu (wrap64 (ag + 1)) a0 af) = some (r1,r2) := by (rw [aY];with_reducible exact H)
         have bW := yf.mk aY;clear aY;have H' := yf.mk H;clear H
         have aD : 0 ≤ (ag : Int) := of_decide_eq_true ‹_›
         have aG : ag < (Dm.length : Int) := of_decide_eq_true ‹_›
         obtain ⟨dm,e246,bJ⟩ := Kd.BG (Kd.zb Bz.out).2.2 ag aD aG;cases e246;replace aD := eq_true aD;replace aG := eq_true aG
         have p39 : 0 ≤ (ag : Int) := of_decide_eq_true ‹_›
         have aH : (ag : Int) < ((Dm.length : Int) : Int) := of_decide_eq_true ‹_›
         obtain ⟨au,dw,cz,bH,cK,dn,bC⟩ := Kd.Hm Bz.out (by omega)
         (cases cz)
         have bA := yf.mk bH;have dh := yf.mk bC;clear bH cK bC
         (simp only [add_plain] at bJ)
         obtain ⟨d9,dx⟩ := Kd.Fh 0 Bz.out (ag : Int) p39 aH;replace p39 := eq_true p39;replace aH := eq_true aH;have aM := Kd.KW Bz.out (ag : Int) (wrap64 ((rd Dm ag) + 1))
         go_wp2_with (((with_reducible refine F8 (t := 3) (p := 57) rfl ?_);refine EI (t := 3) (p := 57) (v := ?vo_w41) (w1 := (wc.setCell ⟨au,(ag : Int).toNat,none⟩ (.int .i64 (wrap64 ((rd Dm ag) + 1))))) ?hg ?ho ?hn ?hr ?_;(case ho => rfl);(case hg => rfl);(case hn => rfl);(case hr => go_simp);intro w41 hw;have hg : wc.grownBy w41 (some au) := (by rw [hw];exact aM.2);have OL : Kd.R (Kd.int .i64) 3 w41 w.heap.size (fun _ => True) (.slice (some ⟨au,0,none⟩) Dm.length IL) bu := (by rw [hw,bW.out];exact aM.1);clear aM;have BR := yf.mk (OL);have BS := yf.mk (Kd.MB (v := (.slice (some ⟨au,0,none⟩) Dm.length IL)) (v1 := (.slice (some ⟨au,0,none⟩) Dm.length IL)) (ok := (fun _ => True)) (by (with_reducible repeat (apply Kd.Be));exact Kd.BI ae.out (fun _ hk => ⟨trivial,hk⟩)) hg (.inl rfl));have Ce := yf.mk (zL (g := EF) (o := .cells #[.int .i64 ax,.slice none 0 0] 27 (0,0)) (kk Ak) hg (Kd.DC Bz.out Ak.out (by decide)));have CZ := yf.mk (zL (g := aj) (o := .cells #[.int .i64 a0,.slice Mf af.length Mo] 27 (0,0)) (kk aa) hg (Kd.DC Bz.out aa.out (by decide)));have Dx := yf.mk ((by rw [hw];exact Dw (HB.out) bA.out : Below w.heap.size w w41));clear Bz;clear ae;clear Ak;clear aa;clear HB;have Bz := BR;have ae := BS;have Ak := Ce;have aa := CZ;have HB := Dx;clear BR BS Ce CZ Dx;clear hg hw OL))
         go_loopg [9] PM (fun kq v9 w' => ∃ (ai : List Int) (ah : Int),v9 = .int .i64 ah ∧ yf (yo.l3 kq a0 a1 ai ah a0 af = some (r1,r2)) ∧ yf (kq ≤ PM) ∧ yf (Kd.R (Kd.int .i64) 3 w' w.heap.size (fun _ => True) (.slice (some ⟨au,0,none⟩) Dm.length IL) ai) ∧ yf (Kd.S (Kd.slice 3 (Kd.int .i64)) 37 w' w.heap.size (fun k_ => some k_ ≠ ((.slice (some ⟨au,0,none⟩) Dm.length IL) : Value).ownBlock) (.slice Mf af.length Mo) af) ∧ yf (w'.heap[EF]? = some (.cells #[.int .i64 ax,(.slice none 0 0)] 27 (0,0))) ∧ yf (w'.heap[aj]? = some (.cells #[.int .i64 a0,(.slice Mf af.length Mo)] 27 (0,0))) ∧ yf (Below w.heap.size w w'))
         case atStart => exact ⟨(bu),(wrap64 (ag + 1)),(by rfl),H',⟨Nat.le_refl _⟩,⟨kR Bz⟩,⟨by (with_reducible repeat (apply Kd.Be));exact Kd.BI ae.out (fun _ hk => hk.2)⟩,⟨kk Ak⟩,⟨kk aa⟩,⟨bO HB⟩⟩
         case round =>
          clear H' bF Kk J4 p39 aH bJ d9 aD aG;obtain ⟨ai,ah,rfl,HA,Lv,Bz,ae,Ak,aa,HB⟩ := hrel;have ak := (Kd.zb Bz.out).1;rw [ak] at Bz
          (try simp only [ak])
          (try simp only [ak] at Ak)
          (try simp only [ak] at aa)
          (try simp only [ak] at ae)
          cases gk with
          | zero => exact absurd HA.out (by simp [yo.l3])
          | succ k4 =>
           have H := HA.out;clear HA;simp only [yo.l3] at H
           by_cases Iz : ah < a1
           ·
            rw [if_pos Iz] at H;have Kl := decide_eq_true Iz;clear Iz;obtain ⟨av,bI⟩ : ∃ j_ : Int,(wrap64 (ah - 1)) = j_ := ⟨_,rfl⟩
            replace H : (if 0 ≤ (av) then (if (av) < (ai.length : Int) then (if 0 ≤ ah then (if ah < (ai.length : Int) then (yo.l3 k4 a0 a1 (ai.set (ah : Int).toNat (wrap64 ((rd ai (av)) + 1))) (wrap64 (ah + 1)) a0 af) else (none)) else (none)) else (none)) else (none)) = some (r1,r2) := by (rw [bI] at H;exact H)
            have hji43w : (IntKind.i64.wrap (ah - 1)) = av := (i64_w _).trans bI
            by_cases LH : 0 ≤ (av)
            ·
             rw [if_pos LH] at H;have TC := decide_eq_true LH;clear LH
             by_cases LJ : (av) < (ai.length : Int)
             ·
              rw [if_pos LJ] at H;have TD := decide_eq_true LJ;clear LJ
              by_cases c46 : 0 ≤ ah
              ·
               rw [if_pos c46] at H;have ZT := decide_eq_true c46;clear c46
               by_cases IR : ah < (ai.length : Int)
               ·
                rw [if_pos IR] at H;have Km := decide_eq_true IR;clear IR;obtain ⟨bv,aZ⟩ : ∃ y_ : List Int,y_ = (ai.set (ah : Int).toNat (wrap64 ((rd ai (av)) + 1))) := ⟨_,rfl⟩
                replace H : (yo.l3 k4 a0 a1 bv (wrap64 (ah + 1)) a0 af) = some (r1,r2) := by (rw [aZ];with_reducible exact H)
                have bX := yf.mk aZ;clear aZ;have H' := yf.mk H;clear H
                have bg : 0 ≤ ((av) : Int) := of_decide_eq_true ‹_›
                have bi : (av) < (ai.length : Int) := of_decide_eq_true ‹_›
                obtain ⟨bZ,e248,cZ⟩ := Kd.BG (Kd.zb Bz.out).2.2 (av) bg bi;obtain rfl : (⟨au,0,none⟩ : Addr) = bZ := (by injection e248)
                (simp only [add_plain] at cZ)
                replace bg := eq_true bg;replace bi := eq_true bi
                have p48 : 0 ≤ (ah : Int) := of_decide_eq_true ‹_›
                have bn : (ah : Int) < ((ai.length : Int) : Int) := of_decide_eq_true ‹_›
                obtain ⟨dC,dz⟩ := Kd.Fh 0 Bz.out (ah : Int) p48 bn;replace p48 := eq_true p48;replace bn := eq_true bn;have RJ := Kd.KW Bz.out (ah : Int) (wrap64 ((rd ai (av)) + 1))
                go_wp2_with (((with_reducible refine F8 (t := 3) (p := 73) rfl ?_);refine EI (t := 3) (p := 73) (v := ?vo_w50) (w1 := (wr.setCell ⟨au,(ah : Int).toNat,none⟩ (.int .i64 (wrap64 ((rd ai (av)) + 1))))) ?hg ?ho ?hn ?hr ?_;(case ho => rfl);(case hg => rfl);(case hn => rfl);(case hr => go_simp);intro w50 hw;have hg : wr.grownBy w50 (some au) := (by rw [hw];exact RJ.2);have OL : Kd.R (Kd.int .i64) 3 w50 w.heap.size (fun _ => True) (.slice (some ⟨au,0,none⟩) ai.length IL) bv := (by rw [hw,bX.out];exact RJ.1);clear RJ;have BR := yf.mk (OL);have BS := yf.mk (Kd.MB (v := (.slice (some ⟨au,0,none⟩) ai.length IL)) (v1 := (.slice (some ⟨au,0,none⟩) ai.length IL)) (ok := (fun _ => True)) (by (with_reducible repeat (apply Kd.Be));exact Kd.BI ae.out (fun _ hk => ⟨trivial,hk⟩)) hg (.inl rfl));have Ce := yf.mk (zL (g := EF) (o := .cells #[.int .i64 ax,.slice none 0 0] 27 (0,0)) (kk Ak) hg (Kd.DC Bz.out Ak.out (by decide)));have CZ := yf.mk (zL (g := aj) (o := .cells #[.int .i64 a0,.slice Mf af.length Mo] 27 (0,0)) (kk aa) hg (Kd.DC Bz.out aa.out (by decide)));have Dx := yf.mk ((by rw [hw];exact Dw (HB.out) bA.out : Below w.heap.size w w50));clear Bz;clear ae;clear Ak;clear aa;clear HB;have Bz := BR;have ae := BS;have Ak := Ce;have aa := CZ;have HB := Dx;clear BR BS Ce CZ Dx;clear hg hw OL))
                (try simp only [← ak])
                go_roundg k4
                case measure => have := Bn.out;have := Di.out;have := Pb.out;have := Lv.out;omega
                case rel => exact ⟨(bv),(wrap64 (ah + 1)),(by rfl),H',⟨by have := Bn.out;have := Di.out;have := Pb.out;have := Lv.out;omega⟩,⟨by (try simp only [ak]);(with_reducible repeat (apply Kd.zg));exact Bz.out⟩,⟨by (try simp only [ak]);(with_reducible repeat (apply Kd.Be));exact Kd.BI ae.out (fun _ hk => hk.2)⟩,⟨by (try simp only [ak]);refine kp ?_;exact Ak.out⟩,⟨by (try simp only [ak]);refine kp ?_;exact aa.out⟩,⟨bO HB⟩⟩
               ·
                rw [if_neg IR] at H;exact absurd H (by simp)
              ·
               rw [if_neg c46] at H;exact absurd H (by simp)
             ·
              rw [if_neg LJ] at H;exact absurd H (by simp)
            ·
             rw [if_neg LH] at H;exact absurd H (by simp)
           ·
            rw [if_neg Iz] at H;have Kl := decide_eq_false Iz;clear Iz;have H' := yf.mk H;clear H
            go_wp2
            (try simp only [← ak])
            go_roundg k4
            case measure => have := Bn.out;have := Di.out;have := Pb.out;have := Lv.out;omega
            case rel => exact ⟨(ai),(ax),(af),(.slice Mf af.length Mo),H',⟨by have := Bn.out;have := Di.out;have := Pb.out;have := Lv.out;omega⟩,⟨by (try simp only [ak]);(with_reducible repeat (apply Kd.zg));exact Bz.out⟩,⟨by (try simp only [ak]);(with_reducible repeat (apply Kd.Be));exact ae.out⟩,⟨by (try simp only [ak]);refine kp ?_;exact Ak.out⟩,⟨by (try simp only [ak]);refine kp ?_;exact aa.out⟩,⟨bO HB⟩⟩
        ·
         rw [if_neg Gq] at H;exact absurd H (by simp)
       ·
        rw [if_neg c37] at H;exact absurd H (by simp)
   ·
    rw [if_neg c18] at H;exact absurd H (by simp)
  ·
   rw [if_neg c17] at H;exact absurd H (by simp)
end Go.Proofs.YtjonnfmoocijlaaGreat.P
