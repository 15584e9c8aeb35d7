/- Texts of a claim, packed. -/
import Derived.Test.YtjonnfmoocijlaaGreatE6
set_option linter.all false
namespace Go.Proofs.YtjonnfmoocijlaaGreat.P
open Go.RowKit Go.Proofs.YtjonnfmoocijlaaGreatKW.PrintWords Go.Proofs.YtjonnfmoocijlaaGreatKW.PrintLast Go.Proofs.YtjonnfmoocijlaaGreatKW.PrintMore
attribute [local go_sem] zN zP Af Ag zz zA zO zQ
def zm.l0 : Nat → Int → Int → List Int → List Int → Int → Option (Int)
 | 0,_,_,_,_,_ => none
 | k + 1,x7,x8,x9,EU,DX => if DX < x8 then (if 0 ≤ DX then (if DX < (x9.length : Int) then (if DX < (EU.length : Int) then (if x7 = 0 then (none) else (zm.l0 k x7 x8 (x9.set (DX : Int).toNat (Int.tmod (wrap64 ((rd x9 DX) + (rd EU DX))) x7)) EU (wrap64 (DX + 1)))) else (none)) else (none)) else (none)) else ((zh.f k x9 x7).bind fun t119 => (some t119))
def zm.f (k : Nat) (a0 : Int) (a1 : Int) (a2 : Int) : Option (Int) := (z8.f k a0).bind fun HZ => ((yT.f k a1 HZ.1 HZ.2).bind fun Vg => ((yT.f k a2 HZ.1 HZ.2).bind fun KS => (zm.l0 k HZ.1 HZ.2 Vg KS 0)))
theorem zm.mono_l : ∀ k,(∀ y0 y1 y2 y3 y4,Bh (zm.l0 k y0 y1 y2 y3 y4) (zm.l0 (k + 1) y0 y1 y2 y3 y4))
 | 0 => fun _ _ _ _ _ r h => by simp [zm.l0] at h
 | k + 1 => by
  have Fz := zm.mono_l k
  ·
   intro y0 y1 y2 y3 y4
   unfold zm.l0
   repeat' first
   | exact Fz _ _ _ _ _
   | exact z8.mono _ _
   | exact yT.mono _ _ _ _
   | exact zh.mono _ _ _
   | exact Bh.refl _
   | exact Bh.none _
   | refine Bh.ite ?_ ?_
   | refine Bh.bind ?_ (fun _ => ?_)
theorem zm.mono : ∀ a0 a1 a2 k,Bh (zm.f k a0 a1 a2) (zm.f (k + 1) a0 a1 a2) := by
 intro a0 a1 a2 k
 have Fz := zm.mono_l k
 unfold zm.f
 repeat' first
  | exact Fz _ _ _ _ _
  | exact z8.mono _ _
  | exact yT.mono _ _ _ _
  | exact zh.mono _ _ _
  | exact Bh.refl _
  | exact Bh.none _
  | refine Bh.ite ?_ ?_
  | refine Bh.bind ?_ (fun _ => ?_)
def zm.T6 : Bool × List (List Nat × List Nat) := (true,[([],[]),([],[]),([],[]),([],[]),([2,3],[2,3]),([4],[4]),([],[]),([],[]),([6,7],[6,7]),([8],[8]),([5,9],[5,9]),([],[]),([10,11],[10,11]),([0,1,0,1,2,3,4,5,6,7,8,9,10,11,12],[0,1]),([13,12,0,1,2,3,4,5,6,7,8,9,10,11,12],[12,13])])
def zm.B6 : List Nat := [0,0,0,0,12,28,0,0,192,448,1020,0,4092,8191,16383]
theorem zm.a2U : Dv .any (opsOf Tryz.f45 6) = zm.T6 := by kernel_rfl
theorem zm.VN : BH zm.T6.2 zm.B6 = true := by kernel_rfl
set_option maxHeartbeats 8000000 in
set_option maxRecDepth 100000 in
theorem zm.calls (k : Nat) (a0 : Int) (a1 : Int) (a2 : Int) (r : Int) (w : World) (h : zm.f k a0 a1 a2 = some r) :
  Calls Tryz.prog 45 #[.int .i64 a0,.int .i64 a1,.int .i64 a2] w fun e w' => e = .returned (.int .i64 r) ∧ Below w.heap.size w w' := by
 have HB := yf.mk (Below.refl w.heap.size w)
 have H : ((z8.f k a0).bind fun HZ => ((yT.f k a1 HZ.1 HZ.2).bind fun Vg => ((yT.f k a2 HZ.1 HZ.2).bind fun KS => (zm.l0 k HZ.1 HZ.2 Vg KS 0)))) = some r := h
 clear h;obtain ⟨⟨aa,t109⟩,A4,H⟩ := bE H
 try dsimp only at H
 obtain ⟨Vg,A5,H⟩ := bE H
 try dsimp only at H
 obtain ⟨KS,A6,H⟩ := bE H
 try dsimp only at H
 have H' := yf.mk H;clear H
 go_enter Tryz.func45,Tryz.ntmps45
 go_wp2_with (first | ((with_reducible refine yz (f := 68) rfl ?_);refine gL (some 14) Tryz.func68 #[.int .i64 a0] ?_;(with_reducible refine (z8.calls k a0 aa t109 _ A4.out).mono ?_);rintro e w' ⟨rfl,⟨nd,rfl⟩⟩;refine ⟨_,rfl,?_⟩) | ((with_reducible refine yz (f := 69) rfl ?_);refine gL (some 20) Tryz.func69 #[.int .i64 a1,.int .i64 aa,.int .i64 t109] ?_;(with_reducible refine (yT.calls k a1 aa t109 Vg _ A5.out).mono ?_);rintro e w7 ⟨v111,rfl,ho0,hb⟩;refine ⟨_,rfl,?_⟩;have ae := yf.mk (Kd.AC ho0 (yF (bO HB)));replace HB := bS HB hb;clear hb;clear ho0) | ((with_reducible refine yz (f := 69) rfl ?_);refine gL (some 24) Tryz.func69 #[.int .i64 a2,.int .i64 aa,.int .i64 t109] ?_;(with_reducible refine (yT.calls k a2 aa t109 KS _ A6.out).mono ?_);rintro e w8 ⟨v114,rfl,ho0,hb⟩;refine ⟨_,rfl,?_⟩;have aA := yf.mk (Kd.AC (Kd.CV ho0 (Kd.EL (kR ae))) (yF (bO HB)));replace ae := yf.mk (Kd.Bu (kR ae) (Kd.Ba ho0) hb);replace HB := bS HB hb;clear hb;clear ho0))
 go_loopg [11] k (fun kq v11 w' => ∃ (BJ : List Int) (Ae : Int),v11 = .int .i64 Ae ∧ yf (zm.l0 kq aa t109 BJ KS Ae = some r) ∧ yf (kq ≤ k) ∧ yf (Kd.R (Kd.int .i64) 3 w' w.heap.size (fun k_ => some k_ ≠ (v114 : Value).ownBlock) v111 BJ) ∧ yf (Kd.R (Kd.int .i64) 3 w' w.heap.size (fun k_ => some k_ ≠ (v111 : Value).ownBlock) v114 KS) ∧ yf (Below w.heap.size w w'))
 case atStart => exact ⟨(Vg),(0),(by rfl),H',⟨Nat.le_refl _⟩,⟨by (with_reducible repeat (apply Kd.zg));exact Kd.zf ae.out (fun _ hk => hk.2)⟩,⟨by (with_reducible repeat (apply Kd.zg));exact Kd.zf aA.out (fun _ hk => hk.2)⟩,⟨bO HB⟩⟩
 case round =>
 clear H';obtain ⟨BJ,Ae,rfl,HA,Bn,Dj,ze,HB⟩ := hrel
 cases gk with
 | zero => exact absurd HA.out (by simp [zm.l0])
 | succ k1 =>
 have H := HA.out;clear HA;simp only [zm.l0] at H
 by_cases c9 : Ae < t109
 rotate_left
 ·
  rw [if_neg c9] at H;have I5 := decide_eq_false c9;clear c9;obtain ⟨t119,az,H⟩ := bE H
  try dsimp only at H
  obtain rfl := Option.some.inj H;obtain ⟨MM,La,Sr⟩ := Kd.zB Dj.out;subst Sr
  go_wp2_with (((with_reducible refine yz (f := 70) rfl ?_);refine gL (some 46) Tryz.func70 #[.slice MM BJ.length La,.int .i64 aa] ?_;(with_reducible refine (zh.calls k1 _ _ BJ aa t119 _ ?yB ?yC az.out).mono ?_);(case yB => exact Jq Dj);(case yC => exact (Kd.zb Dj.out).2.1);rintro e w' ⟨rfl,⟨nd,rfl⟩⟩;refine ⟨_,rfl,?_⟩))
  go_ret
  exact ⟨by rfl,bO HB⟩
 rw [if_pos c9] at H;have I5 := decide_eq_true c9;clear c9
 by_cases c10 : 0 ≤ Ae
 rotate_left
 ·
  rw [if_neg c10] at H;exact absurd H (by simp)
 rw [if_pos c10] at H;have Fu := decide_eq_true c10;clear c10
 by_cases c11 : Ae < (BJ.length : Int)
 rotate_left
 ·
  rw [if_neg c11] at H;exact absurd H (by simp)
 rw [if_pos c11] at H;have Fv := decide_eq_true c11;clear c11
 by_cases c12 : Ae < (KS.length : Int)
 rotate_left
 ·
  rw [if_neg c12] at H;exact absurd H (by simp)
 rw [if_pos c12] at H;have Gj := decide_eq_true c12;clear c12
 by_cases c13 : aa = 0
 ·
  rw [if_pos c13] at H;exact absurd H (by simp)
 rw [if_neg c13] at H;have J3 := beq_eq_false_iff_ne.mpr c13;have Tx := bne_iff_ne.mpr c13;obtain ⟨ay,ah⟩ : ∃ y_ : List Int,y_ = (BJ.set (Ae : Int).toNat (Int.tmod (wrap64 ((rd BJ Ae) + (rd KS Ae))) aa)) := ⟨_,rfl⟩
 replace H : (zm.l0 k1 aa t109 ay KS (wrap64 (Ae + 1))) = some r := by (rw [ah];with_reducible exact H)
 have aC := yf.mk ah;clear ah;have H' := yf.mk H;clear H
 try go_wp2
 replace Dj := yf.mk (Kd.DI Dj.out);replace ze := yf.mk (Kd.DI ze.out);replace HB := yf.mk (zt HB.out);obtain ⟨P7,Pw,a1O⟩ := Kd.zB Dj.out
 (subst a1O)
 have ai : 0 ≤ (Ae : Int) := of_decide_eq_true ‹_›
 have ak : Ae < (BJ.length : Int) := of_decide_eq_true ‹_›
 obtain ⟨aG,e116,ag⟩ := Kd.BG (Kd.zb Dj.out).2.2 Ae ai ak;cases e116;replace ai := eq_true ai;replace ak := eq_true ak;obtain ⟨IU,IK,Wv⟩ := Kd.zB ze.out
 (subst Wv)
 have aj : 0 ≤ (Ae : Int) := of_decide_eq_true ‹_›
 have au : Ae < (KS.length : Int) := of_decide_eq_true ‹_›
 obtain ⟨aD,e117,ax⟩ := Kd.BG (Kd.zb ze.out).2.2 Ae aj au;cases e117;replace aj := eq_true aj;replace au := eq_true au
 have p14 : 0 ≤ (Ae : Int) := of_decide_eq_true ‹_›
 have q14 : (Ae : Int) < ((BJ.length : Int) : Int) := of_decide_eq_true ‹_›
 obtain ⟨SC,UC,Ns,WG,a2c,a5L,VA⟩ := Kd.Hm Dj.out (by omega)
 (cases Ns)
 have a3n := yf.mk WG;have a3o := yf.mk VA;clear WG a2c VA
 (simp only [add_plain] at ag)
 obtain ⟨Xp,WS⟩ := Kd.Fh 0 Dj.out (Ae : Int) p14 q14;replace p14 := eq_true p14;replace q14 := eq_true q14;have af := Kd.Pg Dj.out (Ae : Int) (Int.tmod (wrap64 ((rd BJ Ae) + (rd KS Ae))) aa);rw [← aC.out] at af;have av := yf.mk af;clear af
 refine Bt (n := 15) (S := fun w' => w'.cell? ⟨SC,(Ae).toNat,none⟩ = some (.int .i64 (rd BJ Ae)) ∧ w'.cell? (aD.add (Ae).toNat) = some (.int .i64 (rd KS Ae))) (ds := [14]) (bz 15 0) (by kernel_rfl) rfl rfl ⟨ag,ax⟩ (fun hHeld => ?_);refine Ab zm.a2U zm.VN (fun yJ Bv => ?_)
 generalize wr.drew = w15 at Dj ze HB a3o av WS ag ax Xp hHeld ⊢;refine pU 0 30 15 1 yJ ?_;refine pU 1 31 15 3 yJ ?_;refine pU 2 32 15 7 yJ ?_;refine pU 3 33 15 15 yJ ?_;refine pU 4 34 15 31 yJ ?_;refine pU 6 36 15 95 yJ ?_;refine pU 7 37 15 223 yJ ?_;refine pU 8 38 15 479 yJ ?_;refine pU 11 41 15 2527 yJ ?_
 refine Co 5 35 15 2559 yJ Bv hHeld ?_
 refine Co 9 39 15 3071 yJ Bv hHeld ?_
 refine pU 10 40 15 4095 yJ ?_;refine pU 12 42 15 8191 yJ ?_;refine pU 13 43 15 16383 yJ ?_
 refine OO (i := 14) (N := none) (bz 15 32767) rfl rfl (Ar yJ.out (by kernel_rfl)) (by decide) (fun K hK => ?_)
 refine Ia (w1 := ?_) (by rfl) rfl ?_ ?_
 rotate_left
 ·
  go_simp
  rfl
 refine hK.out _ _ ?_
 clear hK K
 refine Cn (AZ yJ.out (by kernel_rfl)) ?_
 try go_wp2
 go_roundg k1
 case measure => have := Bn.out;omega
 case rel => exact ⟨(ay),(wrap64 (Ae + 1)),(by rfl),H',⟨by have := Bn.out;omega⟩,⟨kR av⟩,⟨by (with_reducible repeat (apply Kd.zg));exact Kd.zf (Kd.Ka (p := ⟨SC,(Ae : Int).toNat,none⟩) (Kd.zf ze.out (fun k_ hk => (⟨hk,fun e_ => hk (by rw [e_];rfl)⟩ : _ ∧ k_ ≠ SC))) (fun _ hk => hk.2) (.int .i64 (Int.tmod (wrap64 ((rd BJ Ae) + (rd KS Ae))) aa))) (fun _ hk => hk.1)⟩,⟨bO HB⟩⟩
end Go.Proofs.YtjonnfmoocijlaaGreat.P
