/- Texts of a claim, packed. -/
import Derived.Test.YtjonnfmoocijlaaGreatE12
import Derived.Test.YtjonnfmoocijlaaGreatE14
set_option linter.all false
namespace Go.Proofs.YtjonnfmoocijlaaGreat.P
open Go.RowKit Go.Proofs.YtjonnfmoocijlaaGreatKW.PrintWords Go.Proofs.YtjonnfmoocijlaaGreatKW.PrintLast Go.Proofs.YtjonnfmoocijlaaGreatKW.PrintMore
attribute [local go_sem] zN zP Af Ag zz zA zO zQ
mutual
def yO.j0 : Nat → Int → Bool → Int → List (List Int) → Int → Int → Int → List (List Int) → Int → Int → Int → Int → Int → Int → Int → Option (Int × (List (List Int)) × Int × Int × Int × Int × Int × (List (List Int)) × (List (List Int)) × Int × Int × Bool)
 | 0,_,_,_,_,_,_,_,_,_,_,_,_,_,_,_ => none
 | k + 1,x4,aA,ag,ax,aa,ae,ah,ai,aj,ak,au,av,af,ay,az => if aA = true then (some (0,([] : List (List Int)),0,0,0,0,0,([] : List (List Int)),([] : List (List Int)),0,0,false)) else (if (wrap64 (aa * af)) > 4096 then (yO.j1 k true ag ax aa ae ah ai aj ak au av af (wrap64 (aa * x4)) (wrap64 ((wrap64 (aa * x4)) + ae))) else ((D9.f ah ai aj ak au av af ([] : List (List Int)) ([] : List (List Int)) (wrap64 (aa * x4)) (wrap64 ((wrap64 (aa * x4)) + ae))).bind fun Ol => (if (wrap64 ((wrap64 (aa * af)) * Ol)) > 65536 then (yO.j1 k true ag ax aa ae ah ai aj ak au av af (wrap64 (aa * x4)) (wrap64 ((wrap64 (aa * x4)) + ae))) else (yO.j1 k (decide ((wrap64 ((wrap64 (aa * x4)) + ae)) > 65536)) ag ax aa ae ah ai aj ak au av af (wrap64 (aa * x4)) (wrap64 ((wrap64 (aa * x4)) + ae))))))
def yO.j1 : Nat → Bool → Int → List (List Int) → Int → Int → Int → List (List Int) → Int → Int → Int → Int → Int → Int → Int → Option (Int × (List (List Int)) × Int × Int × Int × Int × Int × (List (List Int)) × (List (List Int)) × Int × Int × Bool)
 | 0,_,_,_,_,_,_,_,_,_,_,_,_,_,_ => none
 | k + 1,x97,ag,ax,aa,ae,ah,ai,aj,ak,au,av,af,ay,az => if x97 = true then (some (0,([] : List (List Int)),0,0,0,0,0,([] : List (List Int)),([] : List (List Int)),0,0,false)) else (if 0 ≤ ag then (if (ag : Int).toNat ≤ 11728124029610 then (layout_measure_fin ah ai aj ak au av af ay az) else (none)) else (none))
end
def yO.f (k : Nat) (yj : Int) (yg : List (List Int)) (ym : Int) (yn : Int) : Option (Int × (List (List Int)) × Int × Int × Int × Int × Int × (List (List Int)) × (List (List Int)) × Int × Int × Bool) := (Dn.f yj yg).bind fun Cc => (if Cc.2.2 = 0 then (if 0 < (yg.length : Int) then (if ((yX yg 0).length : Int) ≤ 3 then (yO.j0 k Cc.1 true yj yg ym yn yj yg ym yn ((yX yg 0).length : Int) Cc.1 (yg.length : Int) 0 0) else (if ((yX yg 0).length : Int) > 16 then (yO.j0 k Cc.1 true yj yg ym yn yj yg ym yn ((yX yg 0).length : Int) Cc.1 (yg.length : Int) 0 0) else (if ym < 1 then (yO.j0 k Cc.1 true yj yg ym yn yj yg ym yn ((yX yg 0).length : Int) Cc.1 (yg.length : Int) 0 0) else (if ym > 256 then (yO.j0 k Cc.1 true yj yg ym yn yj yg ym yn ((yX yg 0).length : Int) Cc.1 (yg.length : Int) 0 0) else (if yn < 0 then (yO.j0 k Cc.1 true yj yg ym yn yj yg ym yn ((yX yg 0).length : Int) Cc.1 (yg.length : Int) 0 0) else (yO.j0 k Cc.1 (decide (yn > 65536)) yj yg ym yn yj yg ym yn ((yX yg 0).length : Int) Cc.1 (yg.length : Int) 0 0)))))) else (none)) else (some (0,([] : List (List Int)),0,0,0,0,0,([] : List (List Int)),([] : List (List Int)),0,0,false)))
def yO.T4 : Bool × List (List Nat × List Nat) := (true,[([],[]),([],[]),([1],[1]),([2],[2]),([3],[3]),([4],[4]),([5],[5]),([],[]),([],[]),([8],[8]),([9],[9]),([10],[10]),([0,6,7,11],[0,6,7,11]),([],[]),([13,12,0,1,2,3,4,5,6,7,8,9,10,11,12,13],[12,13])])
def yO.B4 : List Nat := [0,0,2,6,14,30,62,0,0,256,768,1792,4095,0,16383]
theorem yO.a2T : Dv .any (opsOf Tryz.f51 4) = yO.T4 := by kernel_rfl
theorem yO.VL : BH yO.T4.2 yO.B4 = true := by kernel_rfl
def yO.T9 : Bool × List (List Nat × List Nat) := (true,[([],[]),([0],[0]),([],[]),([2],[2]),([1,3],[1,3]),([4],[4]),([5],[5]),([6],[6]),([7,6],[6,7]),([6],[6]),([9,6],[6,9]),([8,10,6],[6,8,10]),([6],[6]),([12,6,6],[6,12]),([11,13,6],[6,11,13]),([14,6],[6,14]),([6,15],[6,15]),([16,13],[16]),([17],[17]),([18,17],[17,18]),([19,17],[17,19]),([17,20],[17,20])])
def yO.B9 : List Nat := [0,1,0,4,15,31,63,127,255,127,639,2047,127,4223,16383,32767,65535,131071,262143,524287,1048575,2097151]
theorem yO.Ri : Dv .any (opsOf Tryz.f51 9) = yO.T9 := by kernel_rfl
theorem yO.LD : BH yO.T9.2 yO.B9 = true := by kernel_rfl
set_option maxHeartbeats 8000000 in
set_option maxRecDepth 100000 in
theorem yO.calls (k : Nat) (yj : Int) (Fg : Nat → Prop) (yK : Option Addr) (yE : Nat) (yg : List (List Int)) (ym : Int) (yn : Int) (r1 : Int) (r2 : List (List Int)) (r3 : Int) (r4 : Int) (r5 : Int) (r6 : Int) (r7 : Int) (r8 : List (List Int)) (r9 : List (List Int)) (aX : Int) (aY : Int) (aZ : Bool) (w : World) (JL : Kd.V (Kd.slice 3 (Kd.int .i64)) 37 w w.heap.size (fun k_ => Fg k_) (.slice yK yg.length yE) yg) (h : yO.f k yj yg ym yn = some (r1,r2,r3,r4,r5,r6,r7,r8,r9,aX,aY,aZ)) :
  Calls Tryz.prog 51 #[.agg #[.int .i64 yj,.slice yK yg.length yE,.int .i64 ym,.int .i64 yn]] w fun e w' => ∃ Us cO cZ : Value,e = .returned (.tuple #[.agg #[.int .i64 r1,Us,.int .i64 r3,.int .i64 r4,.int .i64 r5,.int .i64 r6,.int .i64 r7,cO,cZ,.int .i64 aX,.int .i64 aY],.bool aZ]) ∧ Kd.V (Kd.slice 3 (Kd.int .i64)) 37 w' w.heap.size (fun k_ => (Fg k_ ∨ w.heap.size ≤ k_)) Us r2 ∧ Kd.V (Kd.slice 3 (Kd.int .i64)) 37 w' w.heap.size (fun k_ => (Fg k_ ∨ w.heap.size ≤ k_)) cO r8 ∧ Kd.V (Kd.slice 3 (Kd.int .i64)) 37 w' w.heap.size (fun k_ => (Fg k_ ∨ w.heap.size ≤ k_)) cZ r9 ∧ Below w.heap.size w w' := by
 have ET := Tryz.underlying29;have PI := Tryz.underlying94;have UQ := Tryz.underlying27
 have ah := yf.mk (show Kd.V (Kd.slice 3 (Kd.int .i64)) 37 w w.heap.size (fun k_ => (Fg k_ ∨ w.heap.size ≤ k_)) (.slice yK yg.length yE) yg from Kd.yL JL (fun k_ hk => .inl hk))
 have HB := yf.mk (Below.refl w.heap.size w)
 have H : ((Dn.f yj yg).bind fun Cc => (if Cc.2.2 = 0 then (if 0 < (yg.length : Int) then (if ((yX yg 0).length : Int) ≤ 3 then (yO.j0 k Cc.1 true yj yg ym yn yj yg ym yn ((yX yg 0).length : Int) Cc.1 (yg.length : Int) 0 0) else (if ((yX yg 0).length : Int) > 16 then (yO.j0 k Cc.1 true yj yg ym yn yj yg ym yn ((yX yg 0).length : Int) Cc.1 (yg.length : Int) 0 0) else (if ym < 1 then (yO.j0 k Cc.1 true yj yg ym yn yj yg ym yn ((yX yg 0).length : Int) Cc.1 (yg.length : Int) 0 0) else (if ym > 256 then (yO.j0 k Cc.1 true yj yg ym yn yj yg ym yn ((yX yg 0).length : Int) Cc.1 (yg.length : Int) 0 0) else (if yn < 0 then (yO.j0 k Cc.1 true yj yg ym yn yj yg ym yn ((yX yg 0).length : Int) Cc.1 (yg.length : Int) 0 0) else (yO.j0 k Cc.1 (decide (yn > 65536)) yj yg ym yn yj yg ym yn ((yX yg 0).length : Int) Cc.1 (yg.length : Int) 0 0)))))) else (none)) else (some (0,([] : List (List Int)),0,0,0,0,0,([] : List (List Int)),([] : List (List Int)),0,0,false)))) = some (r1,r2,r3,r4,r5,r6,r7,r8,r9,aX,aY,aZ) := h
 clear h;obtain ⟨⟨Bp,Rc,bn⟩,A2,H⟩ := bE H
 try dsimp only at H
 by_cases c3 : bn = 0
 rotate_left
 ·
  rw [if_neg c3] at H;have Gz := beq_eq_false_iff_ne.mpr c3;have Nh := bne_iff_ne.mpr c3;simp only [Option.some.injEq,Prod.mk.injEq] at H;obtain ⟨rfl,rfl,rfl,rfl,rfl,rfl,rfl,rfl,rfl,rfl,rfl,rfl⟩ := H
  go_enter Tryz.func51,Tryz.ntmps51
  go_wp2_with (first | ((with_reducible refine yG (N := 1) rfl ?_);refine yD rfl (N := 1) rfl (cs := #[.int .i64 yj,.slice yK yg.length yE,.int .i64 ym,.int .i64 yn]) (t := 29) (by go_simp) ?_;intro Da hg w91 yI hb;replace ah := yf.mk (Kd.zw (Kd.zD (kV ah) Da (Nat.le_of_eq hg.symm)) hb);have zY := yf.mk (yI);have ZI := bG (w := w) hg;have ZF := bG (w := w) hg;replace HB := bS HB hb;clear hb yI hg) | ((with_reducible refine yG (N := 2) rfl ?_);refine yD rfl (N := 2) rfl (cs := #[.int .i64 0,.slice none 0 0,.int .i64 0,.int .i64 0,.int .i64 0,.int .i64 0,.int .i64 0,.slice none 0 0,.slice none 0 0,.int .i64 0,.int .i64 0]) (t := 94) (by go_simp) ?_;intro Db hg w92 yI hb;have Al := yf.mk (yI);have Q6 := bG (w := w) hg;have ZG := bG (w := w) hg;have ay := Cq zY hg;have az := Aq zY hg;replace ah := yf.mk (Kd.zw (Kd.zD (kV ah) Db (Nat.le_of_eq hg.symm)) hb);replace zY := bB zY hb;replace HB := bS HB hb;clear hb yI hg;have a4A := ay.out;have a4U := az.out;have eG := AO zY;have fw := bf zY) | ((with_reducible refine yz (f := 72) rfl ?_);refine gL (some 16) Tryz.func72 #[.agg #[.int .i64 yj,.slice yK yg.length yE]] ?_;(with_reducible refine (Dn.calls yj _ _ yg Bp Rc bn _ ?yB ?yC A2.out).mono ?_);(case yB => exact MI ah);(case yC => exact (Kd.zH ah.out).2.1);rintro e w95 ⟨rfl,hb⟩;refine ⟨_,rfl,?_⟩;replace ah := MH ah hb;replace zY := bB zY hb;replace Al := bB Al hb;replace HB := bS HB hb;clear hb;have eH := E9 Al;have fA := bf Al))
  refine bodyPost_ret (BB rfl _ _ Db 94 #[.int .i64 0,.slice none 0 0,.int .i64 0,.int .i64 0,.int .i64 0,.int .i64 0,.int .i64 0,.slice none 0 0,.slice none 0 0,.int .i64 0,.int .i64 0] (0,0) _ rfl (CY Al rfl) Tryz.underlying94 rfl (by kernel_rfl)) rfl ?_
  exact ⟨_,_,_,by rfl,Kd.Fp _ _ _ _ _,Kd.Fp _ _ _ _ _,Kd.Fp _ _ _ _ _,bO HB⟩
 rw [if_pos c3] at H;have Gz := beq_iff_eq.mpr c3
 have Nh : (bn != 0) = false := bne_eq_false_iff_eq.mpr c3
 clear c3
 by_cases c4 : 0 < (yg.length : Int)
 rotate_left
 ·
  rw [if_neg c4] at H;exact absurd H (by simp)
 rw [if_pos c4] at H;have ER := decide_eq_true c4
 have Mh : decide (0 < yg.length) = true := decide_eq_true (by omega)
 clear c4;have HC5 := yf.mk H;clear H
 go_enter Tryz.func51,Tryz.ntmps51
 try go_wp2_with (first | ((with_reducible refine yG (N := 1) rfl ?_);refine yD rfl (N := 1) rfl (cs := #[.int .i64 yj,.slice yK yg.length yE,.int .i64 ym,.int .i64 yn]) (t := 29) (by go_simp) ?_;intro Da hg w6 yI hb;replace ah := yf.mk (Kd.zw (Kd.zD (kV ah) Da (Nat.le_of_eq hg.symm)) hb);have zY := yf.mk (yI);have ZI := bG (w := w) hg;have ZF := bG (w := w) hg;replace HB := bS HB hb;clear hb yI hg) | ((with_reducible refine yG (N := 2) rfl ?_);refine yD rfl (N := 2) rfl (cs := #[.int .i64 0,.slice none 0 0,.int .i64 0,.int .i64 0,.int .i64 0,.int .i64 0,.int .i64 0,.slice none 0 0,.slice none 0 0,.int .i64 0,.int .i64 0]) (t := 94) (by go_simp) ?_;intro Db hg w7 yI hb;have Al := yf.mk (yI);have Q6 := bG (w := w) hg;have ZG := bG (w := w) hg;have ay := Cq zY hg;have az := Aq zY hg;replace ah := yf.mk (Kd.zw (Kd.zD (kV ah) Db (Nat.le_of_eq hg.symm)) hb);replace zY := bB zY hb;replace HB := bS HB hb;clear hb yI hg;have a2s := ay.out;have a2B := az.out;have PD := AO zY;have PE := bf zY) | ((with_reducible refine yz (f := 72) rfl ?_);refine gL (some 16) Tryz.func72 #[.agg #[.int .i64 yj,.slice yK yg.length yE]] ?_;(with_reducible refine (Dn.calls yj _ _ yg Bp Rc bn _ ?yB ?yC A2.out).mono ?_);(case yB => exact MI ah);(case yC => exact (Kd.zH ah.out).2.1);rintro e w10 ⟨rfl,hb⟩;refine ⟨_,rfl,?_⟩;replace ah := MH ah hb;replace zY := bB zY hb;replace Al := bB Al hb;replace HB := bS HB hb;clear hb))
 replace ah := yf.mk (Kd.JR ah.out);replace zY := yf.mk (zl zY.out);replace Al := yf.mk (zl Al.out);replace HB := yf.mk (zt HB.out)
 have aK : 0 ≤ (0 : Int) := (by omega)
 have aM : 0 < (yg.length : Int) := of_decide_eq_true ‹_›
 obtain ⟨ag,bL,di,dx,aJ,bY,bX⟩ := Ec (Kd.zH ah.out).2.2 0 aK aM;cases dx
 have HADB : yf (ag.block < w.heap.size) := (by obtain ⟨dU,dR,dS,e_,h_,_⟩ := Ec (Kd.zH JL).2.2 0 aK aM;cases e_;rw [show ((0 : Int)).toNat = 0 from rfl,Addr.add_zero'] at h_;exact ⟨World.block_lt_of_cell? w _ h_⟩)
 obtain ⟨ek,dH,dE,bU⟩ := Kd.a3x ah.out [] 0 aK (by exact aM);obtain ⟨iH,iI,rfl,bJ,bC⟩ := Kd.O3 dE;have bi := bU 0 _ rfl;rw [Nat.add_zero,show ((Kd.slice 3 (Kd.int .i64))).sz = 1 from rfl,Nat.mul_one] at bi;replace bi := Option.some.inj (bi.symm.trans aJ)
 injection bi with bZ dI cu
 rw [bZ] at bC;rw [cu] at bJ;have aC := yf.mk (show Kd.V (Kd.int .i64) 3 _ w.heap.size _ _ (yX yg 0) from Kd.EA bJ bC);clear bZ dI cu bC bJ bU dH
 have iG : (0 < yg.length) = True := eq_true (by omega)
 (try rw [show ((0 : Int)).toNat = 0 from rfl] at aJ)
 (try rw [Addr.add_zero'] at aJ)
 have aQ := yf.mk bX;have dO := yf.mk bY;clear bX bY;replace aK := eq_true aK;replace aM := eq_true aM
 refine Bt (n := 15) (S := fun w' => w'.cell? ⟨Da,0,none⟩ = some (.int .i64 yj) ∧ w'.cell? ⟨Da,1,none⟩ = some (.slice (some ag) yg.length yE) ∧ w'.cell? ⟨Da,2,none⟩ = some (.int .i64 ym) ∧ w'.cell? ⟨Da,3,none⟩ = some (.int .i64 yn) ∧ w'.cell? ag = some (.slice bL (yX yg 0).length di)) (ds := []) (bz 15 0) (by kernel_rfl) rfl rfl ⟨(yx zY.out 0).trans rfl,(yx zY.out 1).trans rfl,(yx zY.out 2).trans rfl,(yx zY.out 3).trans rfl,aJ⟩ (fun hHeld => ?_);refine Ab yO.a2T yO.VL (fun yJ Bv => ?_)
 generalize w10.drew = w11 at ah zY Al HB aC aQ aJ hHeld ⊢;refine pU 1 24 15 2 yJ ?_;refine pU 2 25 15 6 yJ ?_;refine pU 7 30 15 134 yJ ?_;refine pU 8 31 15 390 yJ ?_;refine pU 9 32 15 902 yJ ?_
 refine Co 0 23 15 903 yJ Bv hHeld ?_
 refine Co 3 26 15 911 yJ Bv hHeld ?_
 refine pU 4 27 15 927 yJ ?_
 refine Co 5 28 15 959 yJ Bv hHeld ?_
 refine pU 6 29 15 1023 yJ ?_
 refine Co 10 33 15 2047 yJ Bv hHeld ?_
 refine pU 11 34 15 4095 yJ ?_;refine pU 12 35 15 8191 yJ ?_
 refine CB (i := 13) (N := some 7) (bz 15 16383) rfl rfl (Ar yJ.out (by kernel_rfl)) (by decide) (fun K hK => ?_)
 refine Ei ?hg (N := 7) ?hd (cs := #[.int .i64 0,.slice none 0 0,.int .i64 0,.int .i64 0,.int .i64 0,.int .i64 0,.int .i64 0,.slice none 0 0,.slice none 0 0,.int .i64 0,.int .i64 0]) (t := 94) ?hr ?_;(case hd => rfl);(case hg => rfl);(case hr => go_simp)
 intro aa hg w12 yI hb
 have KU := (hb.cell (World.block_lt_of_cell? _ _ (hHeld.2.2.2.2))).trans (hHeld.2.2.2.2);have BR := yf.mk (Kd.zw (Kd.zD (kV ah) aa (Nat.le_of_eq hg.symm)) hb);have BS := yf.mk (Kd.zw (Kd.zD (kV aC) aa (Nat.le_of_eq hg.symm)) hb);have Ce := bB zY hb;have CZ := bB Al hb;have Dx := yf.mk (Kd.CE (by repeat ((with_reducible exact aQ.out))) hb);have E5 := bS HB hb;have G6 := yf.mk (yI);have GI := bG (w := w) hg;have Jb := bG (w := w) hg;have Jc := Cq zY hg;have EG := Aq zY hg;have EH := Cq Al hg;have F4 := Aq Al hg;clear ah aC zY Al aQ HB;have ah := BR;have aC := BS;have zY := Ce;have Al := CZ;have aQ := Dx;have HB := E5;have ae := G6;have dN := GI;have ax := Jb;have af := Jc;have av := EG;have ak := EH;have au := F4;clear BR BS Ce CZ Dx E5 G6 GI Jb Jc EG EH F4 hb yI hg
 refine hK.out _ _ ⟨(yx zY.out 0).trans rfl,(yx zY.out 1).trans rfl,(yx zY.out 2).trans rfl,(yx zY.out 3).trans rfl,KU⟩ (fun hHeld => ?_)
 clear hK K
 refine AU (a' := ?_) ?_ ?_
 rotate_left
 ·
  show Act.put _ (some 7) _ = _
  simp only [pz]
  rfl
 refine CB (i := 14) (N := none) (bz 15 32767) rfl rfl (Ar yJ.out (by kernel_rfl)) (by decide) (fun K hK => ?_)
 have iq : w12.cell? ⟨aa,0,none⟩ = some (.int .i64 0) := (yx ae.out 0).trans rfl
 have eP := zy ae.out 0;have gI := af.out;have gJ := ak.out;have fC := av.out;have fD := au.out
 have iw : w12.cell? ⟨aa,1,none⟩ = some (.slice none 0 0) := (yx ae.out 1).trans rfl
 have eQ := zy ae.out 1;have gK := af.out;have gM := ak.out;have fE := av.out;have fF := au.out
 have iy : w12.cell? ⟨aa,2,none⟩ = some (.int .i64 0) := (yx ae.out 2).trans rfl
 have eT := zy ae.out 2;have gN := af.out;have gP := ak.out;have fG := av.out;have fH := au.out
 have iA : w12.cell? ⟨aa,3,none⟩ = some (.int .i64 0) := (yx ae.out 3).trans rfl
 have eU := zy ae.out 3;have gQ := af.out;have gT := ak.out;have fI := av.out;have fJ := au.out
 have iB : w12.cell? ⟨aa,4,none⟩ = some (.int .i64 0) := (yx ae.out 4).trans rfl
 have eX := zy ae.out 4;have gU := af.out;have gV := ak.out;have fK := av.out;have fM := au.out
 have iC : w12.cell? ⟨aa,5,none⟩ = some (.int .i64 0) := (yx ae.out 5).trans rfl
 have eY := zy ae.out 5;have gW := af.out;have gX := ak.out;have fO := av.out;have fP := au.out
 have iD : w12.cell? ⟨aa,6,none⟩ = some (.int .i64 0) := (yx ae.out 6).trans rfl
 have eZ := zy ae.out 6;have gY := af.out;have gZ := ak.out;have fQ := av.out;have fT := au.out
 have a6f : w12.cell? ⟨aa,7,none⟩ = some (.slice none 0 0) := (yx ae.out 7).trans rfl
 have a3T := zy ae.out 7;have Zb := af.out;have ib := ak.out;have Z9 := av.out;have fU := au.out
 have a4W : w12.cell? ⟨aa,8,none⟩ = some (.slice none 0 0) := (yx ae.out 8).trans rfl
 have a0f := zy ae.out 8;have Ui := af.out;have ic := ak.out;have TU := av.out;have fV := au.out
 have a6g : w12.cell? ⟨aa,9,none⟩ = some (.int .i64 0) := (yx ae.out 9).trans rfl
 have a3U := zy ae.out 9;have Zc := af.out;have ig := ak.out;have Za := av.out;have fZ := au.out
 have iE : w12.cell? ⟨aa,10,none⟩ = some (.int .i64 0) := (yx ae.out 10).trans rfl
 have fe := zy ae.out 10;have ik := af.out;have il := ak.out;have gp := av.out;have gq := au.out
 refine Ia (w1 := ?_) (by rfl) rfl ?_ ?_
 rotate_left
 ·
  go_simp
  rfl
 refine hK.out _ _ ⟨((cell_far (p := ⟨aa,_,none⟩) af.out _).trans (((cell_far (p := ⟨aa,_,none⟩) af.out _).trans (((cell_far (p := ⟨aa,_,none⟩) af.out _).trans (((cell_far (p := ⟨aa,_,none⟩) af.out _).trans (((cell_far (p := ⟨aa,_,none⟩) af.out _).trans (((cell_far (p := ⟨aa,_,none⟩) af.out _).trans (((cell_far (p := ⟨aa,_,none⟩) af.out _).trans (((cell_far (p := ⟨aa,_,none⟩) af.out _).trans (((cell_far (p := ⟨aa,_,none⟩) af.out _).trans (((cell_far (p := ⟨aa,_,none⟩) af.out _).trans (((cell_far (p := ⟨aa,_,none⟩) af.out _).trans (hHeld.1)))))))))))))))))))))),((cell_far (p := ⟨aa,_,none⟩) af.out _).trans (((cell_far (p := ⟨aa,_,none⟩) af.out _).trans (((cell_far (p := ⟨aa,_,none⟩) af.out _).trans (((cell_far (p := ⟨aa,_,none⟩) af.out _).trans (((cell_far (p := ⟨aa,_,none⟩) af.out _).trans (((cell_far (p := ⟨aa,_,none⟩) af.out _).trans (((cell_far (p := ⟨aa,_,none⟩) af.out _).trans (((cell_far (p := ⟨aa,_,none⟩) af.out _).trans (((cell_far (p := ⟨aa,_,none⟩) af.out _).trans (((cell_far (p := ⟨aa,_,none⟩) af.out _).trans (((cell_far (p := ⟨aa,_,none⟩) af.out _).trans (hHeld.2.1)))))))))))))))))))))),((cell_far (p := ⟨aa,_,none⟩) af.out _).trans (((cell_far (p := ⟨aa,_,none⟩) af.out _).trans (((cell_far (p := ⟨aa,_,none⟩) af.out _).trans (((cell_far (p := ⟨aa,_,none⟩) af.out _).trans (((cell_far (p := ⟨aa,_,none⟩) af.out _).trans (((cell_far (p := ⟨aa,_,none⟩) af.out _).trans (((cell_far (p := ⟨aa,_,none⟩) af.out _).trans (((cell_far (p := ⟨aa,_,none⟩) af.out _).trans (((cell_far (p := ⟨aa,_,none⟩) af.out _).trans (((cell_far (p := ⟨aa,_,none⟩) af.out _).trans (((cell_far (p := ⟨aa,_,none⟩) af.out _).trans (hHeld.2.2.1)))))))))))))))))))))),((cell_far (p := ⟨aa,_,none⟩) af.out _).trans (((cell_far (p := ⟨aa,_,none⟩) af.out _).trans (((cell_far (p := ⟨aa,_,none⟩) af.out _).trans (((cell_far (p := ⟨aa,_,none⟩) af.out _).trans (((cell_far (p := ⟨aa,_,none⟩) af.out _).trans (((cell_far (p := ⟨aa,_,none⟩) af.out _).trans (((cell_far (p := ⟨aa,_,none⟩) af.out _).trans (((cell_far (p := ⟨aa,_,none⟩) af.out _).trans (((cell_far (p := ⟨aa,_,none⟩) af.out _).trans (((cell_far (p := ⟨aa,_,none⟩) af.out _).trans (((cell_far (p := ⟨aa,_,none⟩) af.out _).trans (hHeld.2.2.2.1)))))))))))))))))))))),((cell_far (p := ⟨aa,_,none⟩) (Nat.ne_of_lt (Nat.lt_of_lt_of_le HADB.out ax.out)) _).trans (((cell_far (p := ⟨aa,_,none⟩) (Nat.ne_of_lt (Nat.lt_of_lt_of_le HADB.out ax.out)) _).trans (((cell_far (p := ⟨aa,_,none⟩) (Nat.ne_of_lt (Nat.lt_of_lt_of_le HADB.out ax.out)) _).trans (((cell_far (p := ⟨aa,_,none⟩) (Nat.ne_of_lt (Nat.lt_of_lt_of_le HADB.out ax.out)) _).trans (((cell_far (p := ⟨aa,_,none⟩) (Nat.ne_of_lt (Nat.lt_of_lt_of_le HADB.out ax.out)) _).trans (((cell_far (p := ⟨aa,_,none⟩) (Nat.ne_of_lt (Nat.lt_of_lt_of_le HADB.out ax.out)) _).trans (((cell_far (p := ⟨aa,_,none⟩) (Nat.ne_of_lt (Nat.lt_of_lt_of_le HADB.out ax.out)) _).trans (((cell_far (p := ⟨aa,_,none⟩) (Nat.ne_of_lt (Nat.lt_of_lt_of_le HADB.out ax.out)) _).trans (((cell_far (p := ⟨aa,_,none⟩) (Nat.ne_of_lt (Nat.lt_of_lt_of_le HADB.out ax.out)) _).trans (((cell_far (p := ⟨aa,_,none⟩) (Nat.ne_of_lt (Nat.lt_of_lt_of_le HADB.out ax.out)) _).trans (((cell_far (p := ⟨aa,_,none⟩) (Nat.ne_of_lt (Nat.lt_of_lt_of_le HADB.out ax.out)) _).trans (hHeld.2.2.2.2))))))))))))))))))))))⟩ (fun hHeld => ?_)
 clear hK K
 refine Cn (AZ yJ.out (by kernel_rfl)) ?_
 go_upto_region 5 with (fail)
 go_cut [63] (fun v63 wc => ∃ (kq : Nat) (bq : Bool),v63 = .bool bq ∧ yf (yO.j0 kq Bp bq yj yg ym yn yj yg ym yn ((yX yg 0).length : Int) Bp (yg.length : Int) 0 0 = some (r1,r2,r3,r4,r5,r6,r7,r8,r9,aX,aY,aZ)) ∧ yf (kq ≤ k) ∧ yf (Kd.V (Kd.slice 3 (Kd.int .i64)) 37 wc w.heap.size (fun k_ => (Fg k_ ∨ w.heap.size ≤ k_) ∧ k_ ≠ Da ∧ k_ ≠ Db ∧ k_ ≠ aa) (.slice (some ag) yg.length yE) yg) ∧ yf (Kd.V (Kd.slice 3 (Kd.int .i64)) 37 wc w.heap.size (fun k_ => (Fg k_ ∨ w.heap.size ≤ k_) ∧ k_ ≠ Da ∧ k_ ≠ Db ∧ k_ ≠ aa) (.slice (some ag) yg.length yE) yg) ∧ yf (wc.heap[Da]? = some (.cells #[.int .i64 yj,(.slice (some ag) yg.length yE),.int .i64 ym,.int .i64 yn] 29 (0,0))) ∧ yf (wc.heap[Db]? = some (.cells #[.int .i64 0,(.slice none 0 0),.int .i64 0,.int .i64 0,.int .i64 0,.int .i64 0,.int .i64 0,(.slice none 0 0),(.slice none 0 0),.int .i64 0,.int .i64 0] 94 (0,0))) ∧ yf (wc.heap[aa]? = some (.cells #[.int .i64 yj,(.slice (some ag) yg.length yE),.int .i64 ym,.int .i64 yn,.int .i64 ((yX yg 0).length : Int),.int .i64 Bp,.int .i64 (yg.length : Int),(.slice none 0 0),(.slice none 0 0),.int .i64 0,.int .i64 0] 94 (0,0))) ∧ yf (Kd.C (Kd.int .i64) wc bL (yX yg 0).length (yX yg 0)) ∧ yf (Below w.heap.size w wc))
 case first =>
  have H := HC5.out;clear HC5
  by_cases c24 : ((yX yg 0).length : Int) ≤ 3
  ·
   rw [if_pos c24] at H;have Kj := decide_eq_true c24
   have dh : decide ((yX yg 0).length ≤ 3) = true := decide_eq_true (by omega)
   clear c24
   (skip)
   have H' := yf.mk H;clear H;have X4 := av.out;have Xh := af.out;have TY := au.out;have U9 := ak.out;have IC := E9 ae;have II := bf ae
   go_wp2
   go_meet
   case rel => exact ⟨_,(true),(by rfl),H',⟨by omega⟩,⟨by (with_reducible repeat (apply Kd.zu));exact Kd.yL (EB (g := aa) (Kd.yL ah.out (fun k_ hk => (⟨hk,hk.2⟩ : _ ∧ k_ ≠ aa))) (fun _ hk => hk.2)) (fun _ hk => ⟨hk.1.1.1.1,⟨hk.1.1.1.2,⟨hk.1.1.2,hk.1.2⟩⟩⟩)⟩,⟨by (with_reducible repeat (apply Kd.zu));exact Kd.yL (EB (g := aa) (Kd.yL ah.out (fun k_ hk => (⟨hk,hk.2⟩ : _ ∧ k_ ≠ aa))) (fun _ hk => hk.2)) (fun _ hk => ⟨hk.1.1.1.1,⟨hk.1.1.1.2,⟨hk.1.1.2,hk.1.2⟩⟩⟩)⟩,bK zY rfl,bK Al rfl,bK ae rfl,⟨(Kd.zH (by (with_reducible repeat (apply Kd.zu));exact (Kd.yL (EB (g := aa) (Kd.yL aC.out (fun k_ hk => (⟨hk,hk.2⟩ : _ ∧ k_ ≠ aa))) (fun _ hk => hk.2)) (fun _ h_ => h_.1)))).2.2⟩,⟨bO HB⟩⟩
  rw [if_neg c24] at H;have Kj := decide_eq_false c24
  have dh : decide ((yX yg 0).length ≤ 3) = false := decide_eq_false (by omega)
  clear c24
  (skip)
  by_cases c28 : ((yX yg 0).length : Int) > 16
  ·
   rw [if_pos c28] at H;have Ng := decide_eq_true c28
   have Ov : decide (16 < (yX yg 0).length) = true := decide_eq_true (by omega)
   clear c28;have H' := yf.mk H;clear H;have TZ := av.out;have Ua := af.out;have OI := au.out;have OJ := ak.out;have JI := E9 ae;have JK := bf ae
   go_wp2
   go_meet
   case rel => exact ⟨_,(true),(by rfl),H',⟨by omega⟩,⟨by (with_reducible repeat (apply Kd.zu));exact Kd.yL (EB (g := aa) (Kd.yL ah.out (fun k_ hk => (⟨hk,hk.2⟩ : _ ∧ k_ ≠ aa))) (fun _ hk => hk.2)) (fun _ hk => ⟨hk.1.1.1.1,⟨hk.1.1.1.2,⟨hk.1.1.2,hk.1.2⟩⟩⟩)⟩,⟨by (with_reducible repeat (apply Kd.zu));exact Kd.yL (EB (g := aa) (Kd.yL ah.out (fun k_ hk => (⟨hk,hk.2⟩ : _ ∧ k_ ≠ aa))) (fun _ hk => hk.2)) (fun _ hk => ⟨hk.1.1.1.1,⟨hk.1.1.1.2,⟨hk.1.1.2,hk.1.2⟩⟩⟩)⟩,bK zY rfl,bK Al rfl,bK ae rfl,⟨(Kd.zH (by (with_reducible repeat (apply Kd.zu));exact (Kd.yL (EB (g := aa) (Kd.yL aC.out (fun k_ hk => (⟨hk,hk.2⟩ : _ ∧ k_ ≠ aa))) (fun _ hk => hk.2)) (fun _ h_ => h_.1)))).2.2⟩,⟨bO HB⟩⟩
  rw [if_neg c28] at H;have Ng := decide_eq_false c28
  have Ov : decide (16 < (yX yg 0).length) = false := decide_eq_false (by omega)
  clear c28
  by_cases c32 : ym < 1
  ·
   rw [if_pos c32] at H;have Ql := decide_eq_true c32;clear c32;have H' := yf.mk H;clear H;have X6 := av.out;have Xj := af.out;have U0 := au.out;have Ub := ak.out;have Ku := E9 ae;have KC := bf ae;have U2 := ay.out;have Ud := az.out;have Kv := AO zY;have KD := bf zY
   go_wp2
   go_meet
   case rel => exact ⟨_,(true),(by rfl),H',⟨by omega⟩,⟨by (with_reducible repeat (apply Kd.zu));exact Kd.yL (EB (g := aa) (Kd.yL ah.out (fun k_ hk => (⟨hk,hk.2⟩ : _ ∧ k_ ≠ aa))) (fun _ hk => hk.2)) (fun _ hk => ⟨hk.1.1.1.1,⟨hk.1.1.1.2,⟨hk.1.1.2,hk.1.2⟩⟩⟩)⟩,⟨by (with_reducible repeat (apply Kd.zu));exact Kd.yL (EB (g := aa) (Kd.yL ah.out (fun k_ hk => (⟨hk,hk.2⟩ : _ ∧ k_ ≠ aa))) (fun _ hk => hk.2)) (fun _ hk => ⟨hk.1.1.1.1,⟨hk.1.1.1.2,⟨hk.1.1.2,hk.1.2⟩⟩⟩)⟩,bK zY rfl,bK Al rfl,bK ae rfl,⟨(Kd.zH (by (with_reducible repeat (apply Kd.zu));exact (Kd.yL (EB (g := aa) (Kd.yL aC.out (fun k_ hk => (⟨hk,hk.2⟩ : _ ∧ k_ ≠ aa))) (fun _ hk => hk.2)) (fun _ h_ => h_.1)))).2.2⟩,⟨bO HB⟩⟩
  rw [if_neg c32] at H;have Ql := decide_eq_false c32;clear c32
  by_cases Gq : ym > 256
  ·
   rw [if_pos Gq] at H;have J4 := decide_eq_true Gq;clear Gq;have H' := yf.mk H;clear H;have U3 := av.out;have Ue := af.out;have a0w := au.out;have a0N := ak.out;have OC := E9 ae;have OG := bf ae;have a0x := ay.out;have a0O := az.out;have a08 := AO zY;have a0l := bf zY
   go_wp2
   go_meet
   case rel => exact ⟨_,(true),(by rfl),H',⟨by omega⟩,⟨by (with_reducible repeat (apply Kd.zu));exact Kd.yL (EB (g := aa) (Kd.yL ah.out (fun k_ hk => (⟨hk,hk.2⟩ : _ ∧ k_ ≠ aa))) (fun _ hk => hk.2)) (fun _ hk => ⟨hk.1.1.1.1,⟨hk.1.1.1.2,⟨hk.1.1.2,hk.1.2⟩⟩⟩)⟩,⟨by (with_reducible repeat (apply Kd.zu));exact Kd.yL (EB (g := aa) (Kd.yL ah.out (fun k_ hk => (⟨hk,hk.2⟩ : _ ∧ k_ ≠ aa))) (fun _ hk => hk.2)) (fun _ hk => ⟨hk.1.1.1.1,⟨hk.1.1.1.2,⟨hk.1.1.2,hk.1.2⟩⟩⟩)⟩,bK zY rfl,bK Al rfl,bK ae rfl,⟨(Kd.zH (by (with_reducible repeat (apply Kd.zu));exact (Kd.yL (EB (g := aa) (Kd.yL aC.out (fun k_ hk => (⟨hk,hk.2⟩ : _ ∧ k_ ≠ aa))) (fun _ hk => hk.2)) (fun _ h_ => h_.1)))).2.2⟩,⟨bO HB⟩⟩
  rw [if_neg Gq] at H;have J4 := decide_eq_false Gq;clear Gq
  by_cases LH : yn < 0
  ·
   rw [if_pos LH] at H;have TC := decide_eq_true LH;clear LH;have H' := yf.mk H;clear H;have U4 := av.out;have Uf := af.out;have QM := au.out;have QQ := ak.out;have WP := E9 ae;have WU := bf ae;have X8 := ay.out;have Xl := az.out;have a09 := AO zY;have a0m := bf zY
   go_wp2
   go_meet
   case rel => exact ⟨_,(true),(by rfl),H',⟨by omega⟩,⟨by (with_reducible repeat (apply Kd.zu));exact Kd.yL (EB (g := aa) (Kd.yL ah.out (fun k_ hk => (⟨hk,hk.2⟩ : _ ∧ k_ ≠ aa))) (fun _ hk => hk.2)) (fun _ hk => ⟨hk.1.1.1.1,⟨hk.1.1.1.2,⟨hk.1.1.2,hk.1.2⟩⟩⟩)⟩,⟨by (with_reducible repeat (apply Kd.zu));exact Kd.yL (EB (g := aa) (Kd.yL ah.out (fun k_ hk => (⟨hk,hk.2⟩ : _ ∧ k_ ≠ aa))) (fun _ hk => hk.2)) (fun _ hk => ⟨hk.1.1.1.1,⟨hk.1.1.1.2,⟨hk.1.1.2,hk.1.2⟩⟩⟩)⟩,bK zY rfl,bK Al rfl,bK ae rfl,⟨(Kd.zH (by (with_reducible repeat (apply Kd.zu));exact (Kd.yL (EB (g := aa) (Kd.yL aC.out (fun k_ hk => (⟨hk,hk.2⟩ : _ ∧ k_ ≠ aa))) (fun _ hk => hk.2)) (fun _ h_ => h_.1)))).2.2⟩,⟨bO HB⟩⟩
  rw [if_neg LH] at H;have TC := decide_eq_false LH;clear LH;have H' := yf.mk H;clear H;have QN := av.out;have QR := af.out;have U6 := au.out;have Uh := ak.out;have QC := E9 ae;have QI := bf ae;have a0z := ay.out;have a0Q := az.out;have a3M := AO zY;have a4a := bf zY
  go_wp2
  go_meet
  case rel => exact ⟨_,(decide (yn > 65536)),(by rfl),H',⟨by omega⟩,⟨by (with_reducible repeat (apply Kd.zu));exact Kd.yL (EB (g := aa) (Kd.yL ah.out (fun k_ hk => (⟨hk,hk.2⟩ : _ ∧ k_ ≠ aa))) (fun _ hk => hk.2)) (fun _ hk => ⟨hk.1.1.1.1,⟨hk.1.1.1.2,⟨hk.1.1.2,hk.1.2⟩⟩⟩)⟩,⟨by (with_reducible repeat (apply Kd.zu));exact Kd.yL (EB (g := aa) (Kd.yL ah.out (fun k_ hk => (⟨hk,hk.2⟩ : _ ∧ k_ ≠ aa))) (fun _ hk => hk.2)) (fun _ hk => ⟨hk.1.1.1.1,⟨hk.1.1.1.2,⟨hk.1.1.2,hk.1.2⟩⟩⟩)⟩,bK zY rfl,bK Al rfl,bK ae rfl,⟨(Kd.zH (by (with_reducible repeat (apply Kd.zu));exact (Kd.yL (EB (g := aa) (Kd.yL aC.out (fun k_ hk => (⟨hk,hk.2⟩ : _ ∧ k_ ≠ aa))) (fun _ hk => hk.2)) (fun _ h_ => h_.1)))).2.2⟩,⟨bO HB⟩⟩
 case rest =>
 clear HC5 Gz Nh ER Mh PD PE aJ aK aM;obtain ⟨kq,bq,rfl,HA,ZJ,aj,ai,zY,Al,ae,aQ,HB⟩ := hcut
 cases kq with
 | zero => exact absurd HA.out (by simp [yO.j0])
 | succ kj4 =>
  have H := HA.out;clear HA;simp only [yO.j0] at H
  by_cases L8 : bq = true
  ·
   subst L8;rw [if_pos rfl] at H;simp only [Option.some.injEq,Prod.mk.injEq] at H;obtain ⟨rfl,rfl,rfl,rfl,rfl,rfl,rfl,rfl,rfl,rfl,rfl,rfl⟩ := H;have Xa := az.out;have Xn := ay.out;have a0B := ak.out;have a0S := au.out;have a3O := E9 Al;have a4c := bf Al
   go_wp2
   refine bodyPost_ret (BB rfl _ _ Db 94 #[.int .i64 0,.slice none 0 0,.int .i64 0,.int .i64 0,.int .i64 0,.int .i64 0,.int .i64 0,.slice none 0 0,.slice none 0 0,.int .i64 0,.int .i64 0] (0,0) _ rfl (CY Al rfl) Tryz.underlying94 rfl (by kernel_rfl)) rfl ?_
   exact ⟨_,_,_,by rfl,Kd.Fp _ _ _ _ _,Kd.Fp _ _ _ _ _,Kd.Fp _ _ _ _ _,bO HB⟩
  ·
   replace L8 := Bool.eq_false_iff.mpr L8;subst L8
   rw [if_neg (show ¬ (false = true) by decide)] at H
   have bv := yf.mk H;clear H;have gu := ay.out;have gD := az.out;have a4o := af.out;have a4I := av.out;have a0b := AO zY;have a0o := bf zY;have a0D := au.out;have a0U := ak.out;have a3P := E9 ae;have a4d := bf ae
   go_upto_region 9 with (fail)
   go_cut [97] (fun v97 wc => ∃ (kq : Nat) (bu : Bool),v97 = .bool bu ∧ yf (yO.j1 kq bu yj yg ym yn yj yg ym yn ((yX yg 0).length : Int) Bp (yg.length : Int) (wrap64 (ym * Bp)) (wrap64 ((wrap64 (ym * Bp)) + yn)) = some (r1,r2,r3,r4,r5,r6,r7,r8,r9,aX,aY,aZ)) ∧ yf (kq ≤ kj4) ∧ yf (Kd.V (Kd.slice 3 (Kd.int .i64)) 37 wc w.heap.size (fun k_ => (Fg k_ ∨ w.heap.size ≤ k_) ∧ k_ ≠ Da ∧ k_ ≠ Db ∧ k_ ≠ aa) (.slice (some ag) yg.length yE) yg) ∧ yf (Kd.V (Kd.slice 3 (Kd.int .i64)) 37 wc w.heap.size (fun k_ => (Fg k_ ∨ w.heap.size ≤ k_) ∧ k_ ≠ Da ∧ k_ ≠ Db ∧ k_ ≠ aa) (.slice (some ag) yg.length yE) yg) ∧ yf (wc.heap[Da]? = some (.cells #[.int .i64 yj,(.slice (some ag) yg.length yE),.int .i64 ym,.int .i64 yn] 29 (0,0))) ∧ yf (wc.heap[Db]? = some (.cells #[.int .i64 0,(.slice none 0 0),.int .i64 0,.int .i64 0,.int .i64 0,.int .i64 0,.int .i64 0,(.slice none 0 0),(.slice none 0 0),.int .i64 0,.int .i64 0] 94 (0,0))) ∧ yf (wc.heap[aa]? = some (.cells #[.int .i64 yj,(.slice (some ag) yg.length yE),.int .i64 ym,.int .i64 yn,.int .i64 ((yX yg 0).length : Int),.int .i64 Bp,.int .i64 (yg.length : Int),(.slice none 0 0),(.slice none 0 0),.int .i64 (wrap64 (ym * Bp)),.int .i64 (wrap64 ((wrap64 (ym * Bp)) + yn))] 94 (0,0))) ∧ yf (Below w.heap.size w wc))
   case first =>
    have H := bv.out;clear bv
    by_cases Vp : (wrap64 (ym * (yg.length : Int))) > 4096
    ·
     rw [if_pos Vp] at H;have ZZ := decide_eq_true Vp;clear Vp
     (skip)
     have H' := yf.mk H;clear H
     try go_wp2
     have BR : yf (Kd.V (Kd.slice 3 (Kd.int .i64)) 37 ((wc.setCell ⟨aa,9,none⟩ (.int .i64 (wrap64 (ym * Bp)))).setCell ⟨aa,10,none⟩ (.int .i64 (wrap64 ((wrap64 (ym * Bp)) + yn)))) w.heap.size (fun k_ => (Fg k_ ∨ w.heap.size ≤ k_) ∧ k_ ≠ Da ∧ k_ ≠ Db ∧ k_ ≠ aa) (.slice (some ag) yg.length yE) yg) := ⟨by (with_reducible repeat (apply Kd.zu));exact Kd.yL (EB (g := aa) (Kd.yL aj.out (fun k_ hk => (⟨hk,hk.2.2.2⟩ : _ ∧ k_ ≠ aa))) (fun _ hk => hk.2)) (fun _ hk => ⟨hk.1.1,⟨hk.1.2.1,⟨hk.1.2.2.1,hk.1.2.2.2⟩⟩⟩)⟩
     have BS : yf (Kd.V (Kd.slice 3 (Kd.int .i64)) 37 ((wc.setCell ⟨aa,9,none⟩ (.int .i64 (wrap64 (ym * Bp)))).setCell ⟨aa,10,none⟩ (.int .i64 (wrap64 ((wrap64 (ym * Bp)) + yn)))) w.heap.size (fun k_ => (Fg k_ ∨ w.heap.size ≤ k_) ∧ k_ ≠ Da ∧ k_ ≠ Db ∧ k_ ≠ aa) (.slice (some ag) yg.length yE) yg) := ⟨by (with_reducible repeat (apply Kd.zu));exact Kd.yL (EB (g := aa) (Kd.yL ai.out (fun k_ hk => (⟨hk,hk.2.2.2⟩ : _ ∧ k_ ≠ aa))) (fun _ hk => hk.2)) (fun _ hk => ⟨hk.1.1,⟨hk.1.2.1,⟨hk.1.2.2.1,hk.1.2.2.2⟩⟩⟩)⟩
     have Ce : yf (((wc.setCell ⟨aa,9,none⟩ (.int .i64 (wrap64 (ym * Bp)))).setCell ⟨aa,10,none⟩ (.int .i64 (wrap64 ((wrap64 (ym * Bp)) + yn)))).heap[Da]? = some (.cells #[.int .i64 yj,.slice (some ag) yg.length yE,.int .i64 ym,.int .i64 yn] 29 (0,0))) := bK zY rfl
     have CZ : yf (((wc.setCell ⟨aa,9,none⟩ (.int .i64 (wrap64 (ym * Bp)))).setCell ⟨aa,10,none⟩ (.int .i64 (wrap64 ((wrap64 (ym * Bp)) + yn)))).heap[Db]? = some (.cells #[.int .i64 0,.slice none 0 0,.int .i64 0,.int .i64 0,.int .i64 0,.int .i64 0,.int .i64 0,.slice none 0 0,.slice none 0 0,.int .i64 0,.int .i64 0] 94 (0,0))) := bK Al rfl
     have Dx : yf (((wc.setCell ⟨aa,9,none⟩ (.int .i64 (wrap64 (ym * Bp)))).setCell ⟨aa,10,none⟩ (.int .i64 (wrap64 ((wrap64 (ym * Bp)) + yn)))).heap[aa]? = some (.cells #[.int .i64 yj,.slice (some ag) yg.length yE,.int .i64 ym,.int .i64 yn,.int .i64 ((yX yg 0).length : Int),.int .i64 Bp,.int .i64 (yg.length : Int),.slice none 0 0,.slice none 0 0,.int .i64 (wrap64 (ym * Bp)),.int .i64 (wrap64 ((wrap64 (ym * Bp)) + yn))] 94 (0,0))) := bK ae rfl
     have E5 : yf (Below w.heap.size w ((wc.setCell ⟨aa,9,none⟩ (.int .i64 (wrap64 (ym * Bp)))).setCell ⟨aa,10,none⟩ (.int .i64 (wrap64 ((wrap64 (ym * Bp)) + yn))))) := ⟨bO HB⟩
     clear aj ai zY Al ae HB;generalize ((wc.setCell ⟨aa,9,none⟩ (.int .i64 (wrap64 (ym * Bp)))).setCell ⟨aa,10,none⟩ (.int .i64 (wrap64 ((wrap64 (ym * Bp)) + yn)))) = w66 at BR BS Ce CZ Dx E5 ⊢;have aj := BR;have ai := BS;have zY := Ce;have Al := CZ;have ae := Dx;have HB := E5;clear BR BS Ce CZ Dx E5;replace aj := yf.mk (Kd.JR aj.out);replace ai := yf.mk (Kd.JR ai.out);replace zY := yf.mk (zl zY.out);replace Al := yf.mk (zl Al.out);replace ae := yf.mk (zl ae.out);replace HB := yf.mk (zt HB.out)
     refine Bt (n := 22) (S := fun w' => w'.cell? ⟨Da,0,none⟩ = some (.int .i64 yj) ∧ w'.cell? ⟨Da,1,none⟩ = some (.slice (some ag) yg.length yE) ∧ w'.cell? ⟨Da,2,none⟩ = some (.int .i64 ym) ∧ w'.cell? ⟨Da,3,none⟩ = some (.int .i64 yn) ∧ w'.cell? ⟨aa,0,none⟩ = some (.int .i64 yj) ∧ w'.cell? ⟨aa,1,none⟩ = some (.slice (some ag) yg.length yE) ∧ w'.cell? ⟨aa,2,none⟩ = some (.int .i64 ym) ∧ w'.cell? ⟨aa,3,none⟩ = some (.int .i64 yn) ∧ w'.cell? ⟨aa,4,none⟩ = some (.int .i64 ((yX yg 0).length : Int)) ∧ w'.cell? ⟨aa,5,none⟩ = some (.int .i64 Bp) ∧ w'.cell? ⟨aa,6,none⟩ = some (.int .i64 (yg.length : Int)) ∧ w'.cell? ⟨aa,7,none⟩ = some (.slice none 0 0) ∧ w'.cell? ⟨aa,8,none⟩ = some (.slice none 0 0) ∧ w'.cell? ⟨aa,9,none⟩ = some (.int .i64 (wrap64 (ym * Bp))) ∧ w'.cell? ⟨aa,10,none⟩ = some (.int .i64 (wrap64 ((wrap64 (ym * Bp)) + yn)))) (ds := []) (bz 22 0) (by kernel_rfl) rfl rfl (MZ zY (E9 ae)) (fun hHeld => ?_);refine Ab yO.Ri yO.LD (fun yJ Bv => ?_)
     generalize w66.drew = w67 at aj ai zY Al ae HB hHeld ⊢;refine pU 0 76 22 1 yJ ?_;refine pU 2 78 22 5 yJ ?_
     refine Co 1 77 22 7 yJ Bv hHeld ?_
     refine Co 3 79 22 15 yJ Bv hHeld ?_
     refine pU 4 80 22 31 yJ ?_;refine pU 5 81 22 63 yJ ?_;refine pU 6 82 22 127 yJ ?_;refine pN 7 83 22 255 yJ ?_;refine pN 8 84 22 511 yJ ?_;refine pN 9 85 22 1023 yJ ?_;refine pN 10 86 22 2047 yJ ?_;refine pN 11 87 22 4095 yJ ?_;refine pN 12 88 22 8191 yJ ?_;refine pN 13 89 22 16383 yJ ?_;refine pN 14 90 22 32767 yJ ?_;refine pN 15 91 22 65535 yJ ?_;refine pU 16 92 22 131071 yJ ?_;refine pU 17 93 22 262143 yJ ?_;refine pN 18 94 22 524287 yJ ?_;refine pN 19 95 22 1048575 yJ ?_;refine pN 20 96 22 2097151 yJ ?_;refine pU 21 97 22 4194303 yJ ?_
     refine Cn (AZ yJ.out (by kernel_rfl)) ?_
     try go_wp2
     go_meet
     case rel => exact ⟨_,(true),(by rfl),H',⟨by have := ZJ.out;omega⟩,⟨kV aj⟩,⟨kV ai⟩,⟨kk zY⟩,⟨kk Al⟩,⟨kk ae⟩,⟨bO HB⟩⟩
    ·
     rw [if_neg Vp] at H;have ZZ := decide_eq_false Vp;clear Vp
     (skip)
     obtain ⟨Ol,A68,H⟩ := bE H
     try dsimp only at H
     by_cases Vq : (wrap64 ((wrap64 (ym * (yg.length : Int))) * Ol)) > 65536
     ·
      rw [if_pos Vq] at H;have a00 := decide_eq_true Vq;clear Vq;have H' := yf.mk H;clear H
      try go_wp2
      have BR : yf (Kd.V (Kd.slice 3 (Kd.int .i64)) 37 ((wc.setCell ⟨aa,9,none⟩ (.int .i64 (wrap64 (ym * Bp)))).setCell ⟨aa,10,none⟩ (.int .i64 (wrap64 ((wrap64 (ym * Bp)) + yn)))) w.heap.size (fun k_ => (Fg k_ ∨ w.heap.size ≤ k_) ∧ k_ ≠ Da ∧ k_ ≠ Db ∧ k_ ≠ aa) (.slice (some ag) yg.length yE) yg) := ⟨by (with_reducible repeat (apply Kd.zu));exact Kd.yL (EB (g := aa) (Kd.yL aj.out (fun k_ hk => (⟨hk,hk.2.2.2⟩ : _ ∧ k_ ≠ aa))) (fun _ hk => hk.2)) (fun _ hk => ⟨hk.1.1,⟨hk.1.2.1,⟨hk.1.2.2.1,hk.1.2.2.2⟩⟩⟩)⟩
      have BS : yf (Kd.V (Kd.slice 3 (Kd.int .i64)) 37 ((wc.setCell ⟨aa,9,none⟩ (.int .i64 (wrap64 (ym * Bp)))).setCell ⟨aa,10,none⟩ (.int .i64 (wrap64 ((wrap64 (ym * Bp)) + yn)))) w.heap.size (fun k_ => (Fg k_ ∨ w.heap.size ≤ k_) ∧ k_ ≠ Da ∧ k_ ≠ Db ∧ k_ ≠ aa) (.slice (some ag) yg.length yE) yg) := ⟨by (with_reducible repeat (apply Kd.zu));exact Kd.yL (EB (g := aa) (Kd.yL ai.out (fun k_ hk => (⟨hk,hk.2.2.2⟩ : _ ∧ k_ ≠ aa))) (fun _ hk => hk.2)) (fun _ hk => ⟨hk.1.1,⟨hk.1.2.1,⟨hk.1.2.2.1,hk.1.2.2.2⟩⟩⟩)⟩
      have Ce : yf (((wc.setCell ⟨aa,9,none⟩ (.int .i64 (wrap64 (ym * Bp)))).setCell ⟨aa,10,none⟩ (.int .i64 (wrap64 ((wrap64 (ym * Bp)) + yn)))).heap[Da]? = some (.cells #[.int .i64 yj,.slice (some ag) yg.length yE,.int .i64 ym,.int .i64 yn] 29 (0,0))) := bK zY rfl
      have CZ : yf (((wc.setCell ⟨aa,9,none⟩ (.int .i64 (wrap64 (ym * Bp)))).setCell ⟨aa,10,none⟩ (.int .i64 (wrap64 ((wrap64 (ym * Bp)) + yn)))).heap[Db]? = some (.cells #[.int .i64 0,.slice none 0 0,.int .i64 0,.int .i64 0,.int .i64 0,.int .i64 0,.int .i64 0,.slice none 0 0,.slice none 0 0,.int .i64 0,.int .i64 0] 94 (0,0))) := bK Al rfl
      have Dx : yf (((wc.setCell ⟨aa,9,none⟩ (.int .i64 (wrap64 (ym * Bp)))).setCell ⟨aa,10,none⟩ (.int .i64 (wrap64 ((wrap64 (ym * Bp)) + yn)))).heap[aa]? = some (.cells #[.int .i64 yj,.slice (some ag) yg.length yE,.int .i64 ym,.int .i64 yn,.int .i64 ((yX yg 0).length : Int),.int .i64 Bp,.int .i64 (yg.length : Int),.slice none 0 0,.slice none 0 0,.int .i64 (wrap64 (ym * Bp)),.int .i64 (wrap64 ((wrap64 (ym * Bp)) + yn))] 94 (0,0))) := bK ae rfl
      have E5 : yf (Below w.heap.size w ((wc.setCell ⟨aa,9,none⟩ (.int .i64 (wrap64 (ym * Bp)))).setCell ⟨aa,10,none⟩ (.int .i64 (wrap64 ((wrap64 (ym * Bp)) + yn))))) := ⟨bO HB⟩
      clear aj ai zY Al ae HB;generalize ((wc.setCell ⟨aa,9,none⟩ (.int .i64 (wrap64 (ym * Bp)))).setCell ⟨aa,10,none⟩ (.int .i64 (wrap64 ((wrap64 (ym * Bp)) + yn)))) = w70 at BR BS Ce CZ Dx E5 ⊢;have aj := BR;have ai := BS;have zY := Ce;have Al := CZ;have ae := Dx;have HB := E5;clear BR BS Ce CZ Dx E5;replace aj := yf.mk (Kd.JR aj.out);replace ai := yf.mk (Kd.JR ai.out);replace zY := yf.mk (zl zY.out);replace Al := yf.mk (zl Al.out);replace ae := yf.mk (zl ae.out);replace HB := yf.mk (zt HB.out)
      refine Bt (n := 22) (S := fun w' => w'.cell? ⟨Da,0,none⟩ = some (.int .i64 yj) ∧ w'.cell? ⟨Da,1,none⟩ = some (.slice (some ag) yg.length yE) ∧ w'.cell? ⟨Da,2,none⟩ = some (.int .i64 ym) ∧ w'.cell? ⟨Da,3,none⟩ = some (.int .i64 yn) ∧ w'.cell? ⟨aa,0,none⟩ = some (.int .i64 yj) ∧ w'.cell? ⟨aa,1,none⟩ = some (.slice (some ag) yg.length yE) ∧ w'.cell? ⟨aa,2,none⟩ = some (.int .i64 ym) ∧ w'.cell? ⟨aa,3,none⟩ = some (.int .i64 yn) ∧ w'.cell? ⟨aa,4,none⟩ = some (.int .i64 ((yX yg 0).length : Int)) ∧ w'.cell? ⟨aa,5,none⟩ = some (.int .i64 Bp) ∧ w'.cell? ⟨aa,6,none⟩ = some (.int .i64 (yg.length : Int)) ∧ w'.cell? ⟨aa,7,none⟩ = some (.slice none 0 0) ∧ w'.cell? ⟨aa,8,none⟩ = some (.slice none 0 0) ∧ w'.cell? ⟨aa,9,none⟩ = some (.int .i64 (wrap64 (ym * Bp))) ∧ w'.cell? ⟨aa,10,none⟩ = some (.int .i64 (wrap64 ((wrap64 (ym * Bp)) + yn)))) (ds := []) (bz 22 0) (by kernel_rfl) rfl rfl (MZ zY (E9 ae)) (fun hHeld => ?_);refine Ab yO.Ri yO.LD (fun yJ Bv => ?_)
      generalize w70.drew = w71 at aj ai zY Al ae HB hHeld ⊢;refine pU 0 76 22 1 yJ ?_;refine pU 2 78 22 5 yJ ?_
      refine Co 1 77 22 7 yJ Bv hHeld ?_
      refine Co 3 79 22 15 yJ Bv hHeld ?_
      refine pU 4 80 22 31 yJ ?_;refine pU 5 81 22 63 yJ ?_;refine pU 6 82 22 127 yJ ?_;refine pU 7 83 22 255 yJ ?_;refine pU 9 85 22 767 yJ ?_
      refine Co 8 84 22 1023 yJ Bv hHeld ?_
      refine Co 10 86 22 2047 yJ Bv hHeld ?_
      refine pU 11 87 22 4095 yJ ?_
      refine Co 12 88 22 8191 yJ Bv hHeld ?_
      refine CB (i := 13) (N := some 89) (bz 22 16383) rfl rfl (Ar yJ.out (by kernel_rfl)) (by decide) (fun K hK => ?_)
      refine gO Tryz.func73 #[.agg #[.int .i64 yj,.slice (some ag) yg.length yE,.int .i64 ym,.int .i64 yn,.int .i64 ((yX yg 0).length : Int),.int .i64 Bp,.int .i64 (yg.length : Int),.slice none 0 0,.slice none 0 0,.int .i64 (wrap64 (ym * Bp)),.int .i64 (wrap64 ((wrap64 (ym * Bp)) + yn))]] ?_
      refine (D9.calls yj _ _ yg ym yn ((yX yg 0).length : Int) Bp (yg.length : Int) _ _ ([] : List (List Int)) _ _ ([] : List (List Int)) (wrap64 (ym * Bp)) (wrap64 ((wrap64 (ym * Bp)) + yn)) Ol _ ?yB ?yC ?zI ?zJ ?En ?Eo A68.out).mono ?_
      (case yB => exact MI ai)
      (case yC => exact (Kd.zH ai.out).2.1)
      (case zI => exact Kd.Lu _ _)
      (case zJ => exact Nat.le_refl _)
      (case En => exact Kd.Lu _ _)
      (case Eo => exact Nat.le_refl _)
      rintro e w72 ⟨rfl,hb⟩
      refine ⟨_,rfl,?_⟩
      replace aj := MH aj hb;replace ai := MH ai hb;replace zY := bB zY hb;replace Al := bB Al hb;replace ae := bB ae hb;replace HB := bS HB hb;clear hb
      refine hK.out _ _ (MZ zY (E9 ae)) (fun hHeld => ?_)
      clear hK K
      refine AU (a' := ?_) ?_ ?_
      rotate_left
      ·
       show Act.put _ (some 89) _ = _
       simp only [pz]
       rfl
      refine pU 14 90 22 32767 yJ ?_;refine pU 15 91 22 65535 yJ ?_;refine pU 16 92 22 131071 yJ ?_;refine pU 17 93 22 262143 yJ ?_;refine pN 18 94 22 524287 yJ ?_;refine pN 19 95 22 1048575 yJ ?_;refine pN 20 96 22 2097151 yJ ?_;refine pU 21 97 22 4194303 yJ ?_
      refine Cn (AZ yJ.out (by kernel_rfl)) ?_
      try go_wp2
      go_meet
      case rel => exact ⟨_,(true),(by rfl),H',⟨by have := ZJ.out;omega⟩,⟨kV aj⟩,⟨kV ai⟩,⟨kk zY⟩,⟨kk Al⟩,⟨kk ae⟩,⟨bO HB⟩⟩
     ·
      rw [if_neg Vq] at H;have a00 := decide_eq_false Vq;clear Vq;have H' := yf.mk H;clear H
      try go_wp2
      have BR : yf (Kd.V (Kd.slice 3 (Kd.int .i64)) 37 ((wc.setCell ⟨aa,9,none⟩ (.int .i64 (wrap64 (ym * Bp)))).setCell ⟨aa,10,none⟩ (.int .i64 (wrap64 ((wrap64 (ym * Bp)) + yn)))) w.heap.size (fun k_ => (Fg k_ ∨ w.heap.size ≤ k_) ∧ k_ ≠ Da ∧ k_ ≠ Db ∧ k_ ≠ aa) (.slice (some ag) yg.length yE) yg) := ⟨by (with_reducible repeat (apply Kd.zu));exact Kd.yL (EB (g := aa) (Kd.yL aj.out (fun k_ hk => (⟨hk,hk.2.2.2⟩ : _ ∧ k_ ≠ aa))) (fun _ hk => hk.2)) (fun _ hk => ⟨hk.1.1,⟨hk.1.2.1,⟨hk.1.2.2.1,hk.1.2.2.2⟩⟩⟩)⟩
      have BS : yf (Kd.V (Kd.slice 3 (Kd.int .i64)) 37 ((wc.setCell ⟨aa,9,none⟩ (.int .i64 (wrap64 (ym * Bp)))).setCell ⟨aa,10,none⟩ (.int .i64 (wrap64 ((wrap64 (ym * Bp)) + yn)))) w.heap.size (fun k_ => (Fg k_ ∨ w.heap.size ≤ k_) ∧ k_ ≠ Da ∧ k_ ≠ Db ∧ k_ ≠ aa) (.slice (some ag) yg.length yE) yg) := ⟨by (with_reducible repeat (apply Kd.zu));exact Kd.yL (EB (g := aa) (Kd.yL ai.out (fun k_ hk => (⟨hk,hk.2.2.2⟩ : _ ∧ k_ ≠ aa))) (fun _ hk => hk.2)) (fun _ hk => ⟨hk.1.1,⟨hk.1.2.1,⟨hk.1.2.2.1,hk.1.2.2.2⟩⟩⟩)⟩
      have Ce : yf (((wc.setCell ⟨aa,9,none⟩ (.int .i64 (wrap64 (ym * Bp)))).setCell ⟨aa,10,none⟩ (.int .i64 (wrap64 ((wrap64 (ym * Bp)) + yn)))).heap[Da]? = some (.cells #[.int .i64 yj,.slice (some ag) yg.length yE,.int .i64 ym,.int .i64 yn] 29 (0,0))) := bK zY rfl
      have CZ : yf (((wc.setCell ⟨aa,9,none⟩ (.int .i64 (wrap64 (ym * Bp)))).setCell ⟨aa,10,none⟩ (.int .i64 (wrap64 ((wrap64 (ym * Bp)) + yn)))).heap[Db]? = some (.cells #[.int .i64 0,.slice none 0 0,.int .i64 0,.int .i64 0,.int .i64 0,.int .i64 0,.int .i64 0,.slice none 0 0,.slice none 0 0,.int .i64 0,.int .i64 0] 94 (0,0))) := bK Al rfl
      have Dx : yf (((wc.setCell ⟨aa,9,none⟩ (.int .i64 (wrap64 (ym * Bp)))).setCell ⟨aa,10,none⟩ (.int .i64 (wrap64 ((wrap64 (ym * Bp)) + yn)))).heap[aa]? = some (.cells #[.int .i64 yj,.slice (some ag) yg.length yE,.int .i64 ym,.int .i64 yn,.int .i64 ((yX yg 0).length : Int),.int .i64 Bp,.int .i64 (yg.length : Int),.slice none 0 0,.slice none 0 0,.int .i64 (wrap64 (ym * Bp)),.int .i64 (wrap64 ((wrap64 (ym * Bp)) + yn))] 94 (0,0))) := bK ae rfl
      have E5 : yf (Below w.heap.size w ((wc.setCell ⟨aa,9,none⟩ (.int .i64 (wrap64 (ym * Bp)))).setCell ⟨aa,10,none⟩ (.int .i64 (wrap64 ((wrap64 (ym * Bp)) + yn))))) := ⟨bO HB⟩
      clear aj ai zY Al ae HB;generalize ((wc.setCell ⟨aa,9,none⟩ (.int .i64 (wrap64 (ym * Bp)))).setCell ⟨aa,10,none⟩ (.int .i64 (wrap64 ((wrap64 (ym * Bp)) + yn)))) = w73 at BR BS Ce CZ Dx E5 ⊢;have aj := BR;have ai := BS;have zY := Ce;have Al := CZ;have ae := Dx;have HB := E5;clear BR BS Ce CZ Dx E5;replace aj := yf.mk (Kd.JR aj.out);replace ai := yf.mk (Kd.JR ai.out);replace zY := yf.mk (zl zY.out);replace Al := yf.mk (zl Al.out);replace ae := yf.mk (zl ae.out);replace HB := yf.mk (zt HB.out)
      refine Bt (n := 22) (S := fun w' => w'.cell? ⟨Da,0,none⟩ = some (.int .i64 yj) ∧ w'.cell? ⟨Da,1,none⟩ = some (.slice (some ag) yg.length yE) ∧ w'.cell? ⟨Da,2,none⟩ = some (.int .i64 ym) ∧ w'.cell? ⟨Da,3,none⟩ = some (.int .i64 yn) ∧ w'.cell? ⟨aa,0,none⟩ = some (.int .i64 yj) ∧ w'.cell? ⟨aa,1,none⟩ = some (.slice (some ag) yg.length yE) ∧ w'.cell? ⟨aa,2,none⟩ = some (.int .i64 ym) ∧ w'.cell? ⟨aa,3,none⟩ = some (.int .i64 yn) ∧ w'.cell? ⟨aa,4,none⟩ = some (.int .i64 ((yX yg 0).length : Int)) ∧ w'.cell? ⟨aa,5,none⟩ = some (.int .i64 Bp) ∧ w'.cell? ⟨aa,6,none⟩ = some (.int .i64 (yg.length : Int)) ∧ w'.cell? ⟨aa,7,none⟩ = some (.slice none 0 0) ∧ w'.cell? ⟨aa,8,none⟩ = some (.slice none 0 0) ∧ w'.cell? ⟨aa,9,none⟩ = some (.int .i64 (wrap64 (ym * Bp))) ∧ w'.cell? ⟨aa,10,none⟩ = some (.int .i64 (wrap64 ((wrap64 (ym * Bp)) + yn)))) (ds := []) (bz 22 0) (by kernel_rfl) rfl rfl (MZ zY (E9 ae)) (fun hHeld => ?_);refine Ab yO.Ri yO.LD (fun yJ Bv => ?_)
      generalize w73.drew = w74 at aj ai zY Al ae HB hHeld ⊢;refine pU 0 76 22 1 yJ ?_;refine pU 2 78 22 5 yJ ?_
      refine Co 1 77 22 7 yJ Bv hHeld ?_
      refine Co 3 79 22 15 yJ Bv hHeld ?_
      refine pU 4 80 22 31 yJ ?_;refine pU 5 81 22 63 yJ ?_;refine pU 6 82 22 127 yJ ?_;refine pU 7 83 22 255 yJ ?_;refine pU 9 85 22 767 yJ ?_
      refine Co 8 84 22 1023 yJ Bv hHeld ?_
      refine Co 10 86 22 2047 yJ Bv hHeld ?_
      refine pU 11 87 22 4095 yJ ?_
      refine Co 12 88 22 8191 yJ Bv hHeld ?_
      refine CB (i := 13) (N := some 89) (bz 22 16383) rfl rfl (Ar yJ.out (by kernel_rfl)) (by decide) (fun K hK => ?_)
      refine gO Tryz.func73 #[.agg #[.int .i64 yj,.slice (some ag) yg.length yE,.int .i64 ym,.int .i64 yn,.int .i64 ((yX yg 0).length : Int),.int .i64 Bp,.int .i64 (yg.length : Int),.slice none 0 0,.slice none 0 0,.int .i64 (wrap64 (ym * Bp)),.int .i64 (wrap64 ((wrap64 (ym * Bp)) + yn))]] ?_
      refine (D9.calls yj _ _ yg ym yn ((yX yg 0).length : Int) Bp (yg.length : Int) _ _ ([] : List (List Int)) _ _ ([] : List (List Int)) (wrap64 (ym * Bp)) (wrap64 ((wrap64 (ym * Bp)) + yn)) Ol _ ?yB ?yC ?zI ?zJ ?En ?Eo A68.out).mono ?_
      (case yB => exact MI ai)
      (case yC => exact (Kd.zH ai.out).2.1)
      (case zI => exact Kd.Lu _ _)
      (case zJ => exact Nat.le_refl _)
      (case En => exact Kd.Lu _ _)
      (case Eo => exact Nat.le_refl _)
      rintro e w75 ⟨rfl,hb⟩
      refine ⟨_,rfl,?_⟩
      replace aj := MH aj hb;replace ai := MH ai hb;replace zY := bB zY hb;replace Al := bB Al hb;replace ae := bB ae hb;replace HB := bS HB hb;clear hb
      refine hK.out _ _ (MZ zY (E9 ae)) (fun hHeld => ?_)
      clear hK K
      refine AU (a' := ?_) ?_ ?_
      rotate_left
      ·
       show Act.put _ (some 89) _ = _
       simp only [pz]
       rfl
      refine pU 14 90 22 32767 yJ ?_;refine pU 15 91 22 65535 yJ ?_;refine pU 16 92 22 131071 yJ ?_;refine pU 17 93 22 262143 yJ ?_;refine pU 18 94 22 524287 yJ ?_
      refine Co 19 95 22 1048575 yJ Bv hHeld ?_
      refine pU 20 96 22 2097151 yJ ?_;refine pU 21 97 22 4194303 yJ ?_
      refine Cn (AZ yJ.out (by kernel_rfl)) ?_
      try go_wp2
      go_meet
      case rel => exact ⟨_,(decide ((wrap64 ((wrap64 (ym * Bp)) + yn)) > 65536)),(by rfl),H',⟨by have := ZJ.out;omega⟩,⟨kV aj⟩,⟨kV ai⟩,⟨kk zY⟩,⟨kk Al⟩,⟨kk ae⟩,⟨bO HB⟩⟩
   case rest =>
    clear bv;obtain ⟨kq,bu,rfl,HA,dP,aj,ai,zY,Al,ae,HB⟩ := hcut
    cases kq with
    | zero => exact absurd HA.out (by simp [yO.j1])
    | succ iF =>
     have H := HA.out;clear HA;simp only [yO.j1] at H
     by_cases c76 : bu = true
     ·
      subst c76;rw [if_pos rfl] at H;simp only [Option.some.injEq,Prod.mk.injEq] at H;obtain ⟨rfl,rfl,rfl,rfl,rfl,rfl,rfl,rfl,rfl,rfl,rfl,rfl⟩ := H;have a0H := az.out;have a0Y := ay.out;have Xb := ak.out;have Xo := au.out;have a0e := E9 Al;have a0r := bf Al
      go_wp2
      refine bodyPost_ret (BB rfl _ _ Db 94 #[.int .i64 0,.slice none 0 0,.int .i64 0,.int .i64 0,.int .i64 0,.int .i64 0,.int .i64 0,.slice none 0 0,.slice none 0 0,.int .i64 0,.int .i64 0] (0,0) _ rfl (CY Al rfl) Tryz.underlying94 rfl (by kernel_rfl)) rfl ?_
      exact ⟨_,_,_,by rfl,Kd.Fp _ _ _ _ _,Kd.Fp _ _ _ _ _,Kd.Fp _ _ _ _ _,bO HB⟩
     ·
      replace c76 := Bool.eq_false_iff.mpr c76;subst c76
      rw [if_neg (show ¬ (false = true) by decide)] at H
      by_cases c80 : 0 ≤ yj
      ·
       rw [if_pos c80] at H;have dW := eq_true c80;have dX := decide_eq_true c80;clear c80
       by_cases aT : (yj : Int).toNat ≤ 11728124029610
       ·
        rw [if_pos aT] at H;have dY := eq_true aT;have dZ := decide_eq_true aT;clear aT
        have hmk : MOk yj yg := by
         unfold layout_measure_fin at H
         split at H
         · assumption
         · cases H
        unfold layout_measure_fin at H
        rw [if_pos hmk] at H;simp only [Option.some.injEq,Prod.mk.injEq] at H;obtain ⟨rfl,rfl,rfl,rfl,rfl,rfl,rfl,rfl,rfl,rfl,rfl,rfl⟩ := H;have HMK := yf.mk hmk;clear hmk;have HR := yf.mk (Kd.zH JL).2.2;have HS0 := yf.mk JL;clear JL;obtain ⟨aA,cz⟩ : ∃ y_ : List (List Int),y_ = (List.replicate (yj : Int).toNat []) := ⟨_,rfl⟩;have bA := yf.mk cz;clear cz;have gy := ay.out;have gF := az.out;have a4w := af.out;have a4Q := av.out;have eB := AO zY;have fo := bf zY
        go_wp2_with (((with_reducible refine yG (N := 102) rfl ?_);refine Kd.a1y (Kd.slice 3 (Kd.int .i64)) _ 37 rfl (N := 102) rfl 25 _ _ rfl yj rfl rfl Tryz.underlying25 (.slice none 0 0) 24 PK rfl (by decide) (by omega) [] (ok := fun _ => True) (okp := fun _ => True) ⟨_,rfl,Kd.Dc _ _ _ _ _⟩ (fun _ hk => hk) trivial (of_decide_eq_true ‹_›) (Nat.le_trans (Nat.mul_le_mul_right _ (of_decide_eq_true ‹_› : yj.toNat ≤ 11728124029610)) (by omega)) (Below.refl _ _) (Nat.le_refl _) ?_;intro v259 w85 aW hb JY DL;clear JY DL;(rw [← bA.out] at aW);replace aj := yf.mk (Kd.CO (kV aj) (Kd.RO aW) hb);replace ai := yf.mk (Kd.CO (kV ai) (Kd.RO aW) hb);have bP := yf.mk (Kd.FO (Kd.a1A (M := fun k_ => (w.heap.size ≤ k_)) aW (yF (bO HB)) (fun k_ h_ => h_)) (yF (bO HB)));replace zY := bB zY hb;replace Al := bB Al hb;replace ae := bB ae hb;replace HB := bS HB hb;clear hb aW;obtain ⟨aI,aD,dz⟩ := Kd.EM bP.out;subst dz;have gz := au.out;have gG := ak.out;have eD := E9 ae;have fq := bf ae;have eF := AO zY;have fu := bf zY))
        have HT0 := yf.mk (JQ.start bP.out);have HYL := yf.mk (show aA.length = yj.toNat by rw [bA.out,List.length_replicate])
        go_loopg [108] yg.length (fun kq v108 w' => ∃ (i : Nat) (vr : Value),v108 = .int .i64 (i : Int) ∧ yf (i ≤ yg.length ∧ kq = yg.length - i) ∧ yf (JQ w' w.heap.size (Ey yj.toNat yg i).1 (.slice aI aA.length aD) (Ey yj.toNat yg i).2 vr [] (.slice none 0 0)) ∧ yf (w'.heap[Da]? = some (.cells #[.int .i64 yj,(.slice (some ag) yg.length yE),.int .i64 ym,.int .i64 yn] 29 (0,0))) ∧ yf (w'.heap[Db]? = some (.cells #[.int .i64 0,(.slice none 0 0),.int .i64 0,.int .i64 0,.int .i64 0,.int .i64 0,.int .i64 0,(.slice none 0 0),(.slice none 0 0),.int .i64 0,.int .i64 0] 94 (0,0))) ∧ yf (w'.heap[aa]? = some (.cells #[.int .i64 yj,(.slice (some ag) yg.length yE),.int .i64 ym,.int .i64 yn,.int .i64 ((yX yg 0).length : Int),.int .i64 Bp,.int .i64 (yg.length : Int),vr,(.slice aI aA.length aD),.int .i64 (wrap64 (ym * Bp)),.int .i64 (wrap64 ((wrap64 (ym * Bp)) + yn))] 94 (0,0))) ∧ yf (Below w.heap.size w w'))
        case atStart =>
         refine ⟨0,.slice none 0 0,rfl,⟨Nat.zero_le _,by omega⟩,⟨?_⟩,bK zY rfl,bK Al rfl,bK ae rfl,⟨bO HB⟩⟩
         rw [J9,← bA.out]
         exact JQ.far (p := ⟨aa,8,none⟩) HT0.out ae.out (by decide) (by decide) _
        case round =>
         clear zY Al ae HB HT0;obtain ⟨i,vr,rfl,HI,HT,zY,Al,ae,HB⟩ := hrel;have bV := AO zY;have bW := bf zY
         by_cases c1 : i < yg.length
         · have c1b : decide ((i : Int) < (yg.length : Int)) = true := decide_eq_true (by omega)
           have p1 : 0 ≤ (i : Int) := by omega
           have q1 : (i : Int) < (yg.length : Int) := by omega
           have HL := yf.mk c1
           obtain ⟨k1,rfl⟩ : ∃ k1,gk = k1 + 1 := ⟨gk - 1,by have := HI.out.2;omega⟩
           clear c1;obtain ⟨ad1,A1,n1,e1,hx1,hl1,hr1⟩ := Ec HR.out (i : Int) p1 q1;cases e1;rw [Int.toNat_natCast] at hx1;replace hx1 := cB HB hx1;obtain ⟨g,hg⟩ : ∃ g,yX yg (i : Int) = g := ⟨_,rfl⟩;rw [hg] at hx1
           have HRG : yf ((Kd.int .i64).C w A1 g.length g) := ⟨hg ▸ hr1⟩
           have HGE : yf (yg[i]'HL.out = g) := ⟨by rw [← hg];unfold yX;rw [Int.toNat_natCast,getD_at _ _ _ HL.out]⟩
           clear hg hr1 hl1;replace p1 := eq_true p1;replace q1 := eq_true q1
           go_wp2
           clear hx1 bV bW
           go_loopg [10,115] g.length (fun kq v10 v115 w' => ∃ (j : Nat),v115 = .int .i64 (j : Int) ∧ yf (j ≤ g.length ∧ kq = g.length - j) ∧ yf (JQ w' w.heap.size (Vs i (g.take j) (Ey yj.toNat yg i).1).1 (.slice aI aA.length aD) (Ey yj.toNat yg i).2 vr (Vs i (g.take j) (Ey yj.toNat yg i).1).2 v10) ∧ yf (w'.heap[Da]? = some (.cells #[.int .i64 yj,(.slice (some ag) yg.length yE),.int .i64 ym,.int .i64 yn] 29 (0,0))) ∧ yf (w'.heap[Db]? = some (.cells #[.int .i64 0,(.slice none 0 0),.int .i64 0,.int .i64 0,.int .i64 0,.int .i64 0,.int .i64 0,(.slice none 0 0),(.slice none 0 0),.int .i64 0,.int .i64 0] 94 (0,0))) ∧ yf (w'.heap[aa]? = some (.cells #[.int .i64 yj,(.slice (some ag) yg.length yE),.int .i64 ym,.int .i64 yn,.int .i64 ((yX yg 0).length : Int),.int .i64 Bp,.int .i64 (yg.length : Int),vr,(.slice aI aA.length aD),.int .i64 (wrap64 (ym * Bp)),.int .i64 (wrap64 ((wrap64 (ym * Bp)) + yn))] 94 (0,0))) ∧ yf (Below w.heap.size w w'))
           case atStart => exact ⟨0,rfl,⟨Nat.zero_le _,by omega⟩,HT,zY,Al,ae,HB⟩
           case round =>
            clear HT zY Al ae HB;obtain ⟨j,rfl,HJ,HT,zY,Al,ae,HB⟩ := hrel
            by_cases c2 : j < g.length
            · have c2b : decide ((j : Int) < (g.length : Int)) = true := decide_eq_true (by omega)
              have p2 : 0 ≤ (j : Int) := by omega
              have q2 : (j : Int) < (g.length : Int) := by omega
              have HJL := yf.mk c2
              obtain ⟨k2,rfl⟩ : ∃ k2,gk = k2 + 1 := ⟨gk - 1,by have := HJ.out.2;omega⟩
              clear c2
              have hgL : g ∈ yg := HGE.out ▸ List.getElem_mem HL.out
              obtain ⟨hj0,hj1⟩ := (HMK.out.2 g hgL).2 g[j] (List.getElem_mem HJL.out)
              obtain ⟨dd,hdd⟩ : ∃ dd : Nat,g[j]'HJL.out = (dd : Int) := ⟨(g[j]'HJL.out).toNat,by omega⟩
              have HBD := (Bd.row _ _ i g _ (Bd.all yj.toNat yg (fun g hg => (HMK.out.2 g hg).1) i (Nat.le_of_lt HL.out)).1 j (Nat.le_of_lt HJL.out))
              have hstep := QX i g (Ey yj.toNat yg i).1 j HJL.out;rw [hdd] at hstep;obtain ⟨aH,bH⟩ : ∃ x,(Vs i (g.take j) (Ey yj.toNat yg i).1).1 = x := ⟨_,rfl⟩;obtain ⟨cK,bI⟩ : ∃ x,(Vs i (g.take j) (Ey yj.toNat yg i).1).2 = x := ⟨_,rfl⟩;rw [bH,bI] at HT HBD;simp only [NL,bH,bI,Int.toNat_natCast] at hstep;have HSTEP := yf.mk hstep
              have bg : aH.length = aA.length := by rw [HBD.1.1,HYL.out]
              have hddn : dd < aA.length := by rw [HYL.out];omega
              have hlo : (aH.getD dd []).length + 1 < 1000000 := by have := HBD.1.2 dd;have := HI.out.1;have := HMK.out.1;have dC := (HMK.out.2 g hgL).1;have := HJL.out;have : i * 60 ≤ 4096 * 60 := Nat.mul_le_mul_right _ (by omega);omega
              have hlr : cK.length + 1 < 1000000 := by have := HBD.2;have dC := (HMK.out.2 g hgL).1;have := HJL.out;omega
              have HLO := yf.mk hlo;have HLR := yf.mk hlr;have aN := yf.mk bg;obtain ⟨dJ,bo,dD⟩ := JQ.head HT.out dd hddn;subst dD;clear dJ;have HDDN := yf.mk hddn
              have dF : w.heap.size ≤ bo ∧ ∃ cells,wr.heap[bo]? = some (.cells cells 37 (0,0)) := by
                have bR := HT.out;rw [← bg] at bR;obtain ⟨_,_,_,_,_,_,UN,_,UO,_⟩ := JQ.a2E bR dd (by rw [bg];exact hddn)
                exact ⟨UN,UO⟩
              obtain ⟨bT,dm,aG⟩ := dF;have HBG := yf.mk bT
              have NBOA : yf (Da ≠ bo) := ⟨fun e => by rw [← e,zY.out] at aG;injection aG with h_;injection h_ with _ h_;cases h_⟩
              have NBOB : yf (Db ≠ bo) := ⟨fun e => by rw [← e,Al.out] at aG;injection aG with h_;injection h_ with _ h_;cases h_⟩
              have NBOC : yf (aa ≠ bo) := ⟨fun e => by rw [← e,ae.out] at aG;injection aG with h_;injection h_ with _ h_;cases h_⟩
              clear bT aG dm;obtain ⟨ad2,e2,hx2⟩ := Kd.BG HRG.out (j : Int) p2 q2;cases e2;rw [Int.toNat_natCast,show rd g (j : Int) = (dd : Int) from (IJ g j HJL.out).trans hdd] at hx2;replace hx2 := cB HB hx2;clear hgL hj0 hj1 hdd hstep bH bI HBD hlo hlr bg hddn;have HT' := HT.out;rw [← aN.out] at HT';obtain ⟨oi,vd,hRd,hcd,hfd,bD,bF,hvdbo,hbt,hback⟩ := JQ.a2E HT' dd (by rw [aN.out];exact HDDN.out);clear hback hfd hvdbo;obtain ⟨Ad,cd,hvd⟩ := Kd.zB hRd;subst hvd;have hwb := World.block_lt_of_cell? _ _ hcd
              have p3 : (0 ≤ (dd : Int)) = True := eq_true (by omega)
              have q3 : ((dd : Int) < (aA.length : Int)) = True := eq_true (by have := HDDN.out;omega)
              replace p2 := eq_true p2;replace q2 := eq_true q2;have aU := E9 ae;have aV := bf ae;clear hRd bD bF hbt HT' hwb;obtain ⟨oO,oR,oT,hS,hR,hT,d1,d2,d3⟩ := HT.out;have HS := yf.mk hS;have HRR := yf.mk hR;have HRT := yf.mk hT;have HD := yf.mk (And.intro d1 (And.intro d2 d3));clear hS hR hT d1 d2 d3
              go_wp2_with (first
                | ((with_reducible refine Bf (b := .append) (xs := #[.tmp 119,.tmp 126]) rfl ?_);at_builtin;refine Kd.Dz (Kd.int .i64) (w0 := w) w.heap.size rfl (.tmp 119) (.tmp 126) 37 3 (.int .i64 0) 8 rfl Tryz.underlying37 info3 rfl (by decide) (by omega) _ cK ((aH.getD dd []).length : Int) [.int .i64 ((aH.getD dd []).length : Int)] (fun k_ => oT k_ ∨ wr.heap.size ≤ k_) (fun _ => False) rfl rfl rfl (fun _ hk => hk.elim) (fun k hk => .inr hk) (Kd.zf HRT.out (fun k hk => .inl hk)) HB.out HB.out.size (by have := HLR.out;omega) ?_;intro v1 w1 ho hb hg hat;have HT1 := yf.mk (JQ.push HS.out HRR.out HRT.out HD.out.1 HD.out.2.1 HD.out.2.2 ho hg);replace zY := yf.mk (zL zY.out hg (Kd.DC HRT.out zY.out (by decide)));replace Al := yf.mk (zL Al.out hg (Kd.DC HRT.out Al.out (by decide)));replace ae := yf.mk (zL ae.out hg (Kd.DC HRT.out ae.out (by decide)));replace HB := yf.mk hb;clear ho hb hg hat hcd aU aV hx2))
              clear HS HRR HRT HD HT;replace HT1 := yf.mk HT1.out.drew;replace zY := yf.mk (zl zY.out);replace Al := yf.mk (zl Al.out);replace ae := yf.mk (zl ae.out);replace HB := yf.mk (zt HB.out);have HT' := HT1.out;rw [← aN.out] at HT';obtain ⟨oi,vd,hRd,hcd,hfd,bD,bF,hvdbo,dG,hback⟩ := JQ.a2E HT' dd (by rw [aN.out];exact HDDN.out);obtain ⟨cbo,hbt⟩ := dG;obtain ⟨bM,bQ,hvd⟩ := Kd.zB hRd;subst hvd;rw [aN.out] at hback;have HRD := yf.mk hRd;have HCD := yf.mk hcd;have HBT := yf.mk hbt;have HBK := yf.mk hback;have HVB := yf.mk hvdbo;clear hRd hcd hbt hback hvdbo hfd bD bF HT' HT1
              refine Bt (n := 13) (S := fun w' => w'.cell? ⟨aa,8,none⟩ = some (.slice (some ⟨bo,0,none⟩) aA.length aD) ∧ w'.cell? ⟨bo,dd,none⟩ = some (.slice bM (aH.getD dd []).length bQ)) (ds := [12]) (bz 13 0) (by kernel_rfl) rfl rfl ⟨(yx ae.out 8).trans rfl,HCD.out⟩ (fun hHeld => ?_);refine Ab Od NM (fun yJ Bv => ?_)
              refine pU 0 128 13 1 yJ ?_;refine pU 2 130 13 5 yJ ?_;refine pU 3 131 13 13 yJ ?_;refine pU 5 133 13 45 yJ ?_;refine pU 8 136 13 301 yJ ?_
              refine Co 1 129 13 303 yJ Bv hHeld ?_
              refine Co 4 132 13 319 yJ Bv hHeld ?_
              refine pU 6 134 13 383 yJ ?_
              refine Co 7 135 13 511 yJ Bv hHeld ?_
              refine CB (i := 9) (N := some 137) (bz 13 1023) rfl rfl (Ar yJ.out (by kernel_rfl)) (by decide) (fun K hK => ?_)
              refine Ti (w1 := ?_) (v := ?_) (by rfl) rfl ?_ ?_
              rotate_left 2
              · go_simp
                constructor
                · rfl
                · rfl
              refine hK.out _ _ ⟨(yx (Eh ae.out _) 8).trans rfl,(yx (Eh HBT.out _) dd).trans ((yx HBT.out dd).symm.trans HCD.out)⟩ (fun hHeld => ?_)
              clear hK K
              refine AU (a' := ?_) ?_ ?_
              rotate_left
              · show Act.put _ (some 137) _ = _
                simp only [pz]
                rfl
              refine CB (i := 10) (N := some 138) (bz 13 2047) rfl rfl (Ar yJ.out (by kernel_rfl)) (by decide) (fun K hK => ?_)
              refine Kd.Hl (Kd.int .i64) (w0 := w) w.heap.size (by rfl) (.tmp 135) (.tmp 137) 37 3 (.int .i64 0) 8 rfl Tryz.underlying37 info3 rfl (by decide) (by omega) (.slice bM (aH.getD dd []).length bQ) (aH.getD dd []) (i : Int) [.int .i64 (i : Int)] (fun k_ => oi k_ ∨ w1.drew.heap.size ≤ k_) (fun _ => False) rfl rfl rfl (fun _ hk => hk.elim) (fun k hk => .inr hk) (Kd.zf HRD.out (fun k hk => .inl hk)) HB.out HB.out.size (by have := HLO.out;omega) ?_
              intro v2 w2 ho hb hg hat
              have HT2 := yf.mk (HBK.out w2 v2 _ ho hg);replace zY := yf.mk (zL zY.out hg (Kd.DC HRD.out zY.out (by decide)));replace Al := yf.mk (zL Al.out hg (Kd.DC HRD.out Al.out (by decide)));replace ae := yf.mk (zL ae.out hg (Kd.DC HRD.out ae.out (by decide)));have bN := yf.mk ((yx (zL HBT.out hg (fun e => HVB.out bo e.symm rfl)) dd).trans ((yx HBT.out dd).symm.trans HCD.out));replace HBT := yf.mk (zL HBT.out hg (fun e => HVB.out bo e.symm rfl));replace HB := yf.mk hb;have dQ := yf.mk (Kd.ZM ho);obtain ⟨dL,ed,hv2⟩ := Kd.zB ho;subst hv2
              have HBOW : yf (w.heap.size ≤ bo) := ⟨HBG.out⟩
              clear ho hb hg hat HBK HVB HRD
              refine hK.out _ _ ⟨(yx ae.out 8).trans rfl,bN.out⟩ (fun hHeld => ?_)
              clear hK K
              refine AU (a' := ?_) ?_ ?_
              rotate_left
              · show Act.put _ (some 138) _ = _
                simp only [pz]
                rfl
              refine pU 11 139 13 4095 yJ ?_
              refine OO (i := 12) (N := none) (bz 13 8191) rfl rfl (Ar yJ.out (by kernel_rfl)) (by decide) (fun K hK => ?_)
              have a4X := bN.out;have a0g := zy HBT.out dd
              refine Ia (w1 := ?_) (by rfl) rfl ?_ ?_
              rotate_left
              · go_simp
                rfl
              refine hK.out _ _ ?_
              clear hK K
              refine Cn (AZ yJ.out (by kernel_rfl)) ?_
              clear a4X a0g
              go_wp2
              go_roundg k2
              case measure => exact Nat.lt_succ_self _
              case rel =>
               refine ⟨j + 1,vi HJL.out HRG.out.2.1,⟨by have := HJL.out;omega,by have := HJ.out.2;have := HJL.out;omega⟩,⟨?_⟩,⟨Gp zY.out NBOA.out _⟩,⟨Gp Al.out NBOB.out _⟩,⟨Gp ae.out NBOC.out _⟩,⟨Dw HB.out HBOW.out⟩⟩
               rw [HSTEP.out];have HT3 := HT2.out;simp only [List.getD_eq_getElem?_getD,List.length_append,List.length_singleton] at HT3 ⊢
               exact HT3
            · have c2b : decide ((j : Int) < (g.length : Int)) = false := decide_eq_false (by omega)
              obtain rfl : j = g.length := by have := HJ.out.1;omega
              clear c2;have aU := E9 ae;have aV := bf ae;obtain ⟨oO,oR,oT,hS,hR,hT,d1,d2,d3⟩ := HT.out;have HS := yf.mk hS;have HRR := yf.mk hR;have HRT := yf.mk hT;have HD := yf.mk (And.intro d1 (And.intro d2 d3))
              have HRL := yf.mk (Bd.all yj.toNat yg (fun g hg => (HMK.out.2 g hg).1) i (Nat.le_of_lt HL.out)).2
              clear hS hR hT d1 d2 d3 HT;rw [List.take_of_length_le (Nat.le_refl _)] at HS HRT;obtain ⟨dK,dV,dw⟩ := Kd.zB HRT.out;subst dw
              go_wp2_with (first
                | ((with_reducible refine Bf (b := .append) (xs := #[.tmp 142,.tmp 144]) rfl ?_);at_builtin;refine Kd.Dz (Kd.slice 3 (Kd.int .i64)) (w0 := w) w.heap.size rfl (.tmp 142) (.tmp 144) 25 37 (.slice none 0 0) 24 rfl Tryz.underlying25 PK rfl (by decide) (by omega) vr (Ey yj.toNat yg i).2 (Vs i g (Ey yj.toNat yg i).1).2 [_] (fun k_ => (oR k_ ∨ oT k_) ∨ wr.heap.size ≤ k_) oT rfl rfl (Kd.Tm HRT.out) (fun k hk => ⟨.inl (.inr hk),fun e => HD.out.2.1 k (HRR.out.1 k e.symm) hk⟩) (fun k hk => .inr hk) (Kd.zf HRR.out (fun k hk => .inl (.inl hk))) HB.out HB.out.size (by have := HRL.out;have := HI.out.1;have := HMK.out.1;omega) ?_;intro v1 w1 ho hb hg hat;have HT1 := yf.mk (JQ.rank HS.out HRR.out HD.out.1 HD.out.2.2 ho hg);replace zY := yf.mk (zL zY.out hg (Kd.DC HRR.out zY.out (by decide)));replace Al := yf.mk (zL Al.out hg (Kd.DC HRR.out Al.out (by decide)));replace ae := yf.mk (zL ae.out hg (Kd.DC HRR.out ae.out (by decide)));replace HB := yf.mk hb;have df := yf.mk (Kd.zB ho);clear ho hb hg hat;clear aU aV;obtain ⟨dM,eu,dA⟩ := df.out;subst dA;have aU := E9 ae;have aV := bf ae))
              go_roundg k1
              case measure => exact Nat.lt_succ_self _
              case rel =>
               refine ⟨i + 1,_,vi HL.out HR.out.2.1,⟨by have := HL.out;omega,by have := HI.out.2;have := HL.out;omega⟩,⟨?_⟩,⟨Gp zY.out af.out _⟩,⟨Gp Al.out ak.out _⟩,⟨YN (cs := #[.int .i64 yj,.slice (some ag) yg.length yE,.int .i64 ym,.int .i64 yn,.int .i64 ((yX yg 0).length : Int),.int .i64 Bp,.int .i64 (yg.length : Int),vr,.slice aI aA.length aD,.int .i64 (wrap64 (ym * Bp)),.int .i64 (wrap64 ((wrap64 (ym * Bp)) + yn))]) ae.out 7 _ rfl⟩,⟨bO HB⟩⟩
               rw [M0 _ _ _ HL.out];simp only [mGo,HGE.out];have HT2 := HT1.out;rw [List.length_append,List.length_singleton] at HT2
               exact JQ.far (p := ⟨aa,7,none⟩) HT2 ae.out (by decide) (by decide) _
         · have c1b : decide ((i : Int) < (yg.length : Int)) = false := decide_eq_false (by omega)
           obtain rfl : i = yg.length := by have := HI.out.1;omega
           clear c1 bV bW;rw [SY] at HT;have gB := ak.out;have gH := au.out;have aU := E9 ae;have aV := bf ae;have eO := E9 Al;have fB := bf Al;obtain ⟨oO,oR,oT,hS,hR,hT,d1,d2,d3⟩ := HT.out;obtain ⟨d9,dn,dB⟩ := Kd.zB hR;subst dB;have HS := yf.mk (Kd.C8 (Kd.Kb hS) Al.out (by decide));have HRR := yf.mk (Kd.Bw (Kd.DZ hR) Al.out (by decide));clear hS hR hT d1 d2 d3 HT
           go_wp2
           refine bodyPost_ret (BB rfl _ _ Db 94 #[.int .i64 yj,.slice (some ag) yg.length yE,.int .i64 ym,.int .i64 yn,.int .i64 ((yX yg 0).length : Int),.int .i64 Bp,.int .i64 (yg.length : Int),.slice d9 (GH yj.toNat yg).2.length dn,.slice aI aA.length aD,.int .i64 (wrap64 (ym * Bp)),.int .i64 (wrap64 ((wrap64 (ym * Bp)) + yn))] (0,0) _ rfl (CY Al rfl) Tryz.underlying94 rfl (by kernel_rfl)) rfl ?_
           exact ⟨_,_,_,by rfl,Kd.yL (Kd.zw HS0.out (bO HB)) (fun k_ hk => .inl hk),Kd.yL (Kd.R_V (GG (g := Db) HRR.out (fun _ hk => hk.2))) (fun k_ hk => .inr hk.1.2.1),Kd.yL (Kd.S_V (MG (g := Db) HS.out (fun _ hk => hk.2))) (fun k_ hk => .inr hk.1.2.1),bO HB⟩
       ·
        rw [if_neg aT] at H;exact absurd H (by simp)
      ·
       rw [if_neg c80] at H;exact absurd H (by simp)
end Go.Proofs.YtjonnfmoocijlaaGreat.P
