/- Texts of a claim, packed. -/
import Derived.Test.YtjonnfmoocijlaaGreatE19
set_option linter.all false
namespace Go.Proofs.YtjonnfmoocijlaaGreat.P
open Go.RowKit Go.Proofs.YtjonnfmoocijlaaGreatKW.PrintWords Go.Proofs.YtjonnfmoocijlaaGreatKW.PrintLast Go.Proofs.YtjonnfmoocijlaaGreatKW.PrintMore
attribute [local go_sem] zN zP Af Ag zz zA zO zQ
def Bj.f (k : Nat) (yj : Int) (Pm : Int) (ym : Int) (yn : Int) (Cz : Int) (CK : Int) : Option (Int) := (cmp_Compare_int.f yj Cz).bind fun t159 => ((cmp_Compare_int.f Pm CK).bind fun t160 => ((Ch.f k (([t159,t160] : List Int))).bind fun t164 => (some t164)))
def Bj.T1 : Bool × List (List Nat × List Nat) := (true,[([],[]),([0],[0]),([],[]),([2],[2]),([1,3],[1,3]),([],[]),([5],[5]),([],[]),([7],[7]),([6,8,4],[6,8]),([4,9],[4,9]),([10,9],[10]),([11,11,0,1,2,3,4,5,6,7,8,9,10,11],[11])])
def Bj.B1 : List Nat := [0,1,0,4,15,0,32,0,128,511,1023,2047,4095]
theorem Bj.a2R : Dv .any (opsOf Tryz.f25 1) = Bj.T1 := by kernel_rfl
theorem Bj.VH : BH Bj.T1.2 Bj.B1 = true := by kernel_rfl
set_option maxHeartbeats 8000000 in
set_option maxRecDepth 100000 in
theorem Bj.calls (k : Nat) (yj : Int) (Pm : Int) (ym : Int) (yn : Int) (Cz : Int) (CK : Int) (r : Int) (w : World) (h : Bj.f k yj Pm ym yn Cz CK = some r) :
  Calls Tryz.prog 25 #[.agg #[.int .i64 yj,.int .i64 Pm,.int .i64 ym,.int .i64 yn],.agg #[.int .i64 Cz,.int .i64 CK]] w fun e w' => e = .returned (.int .i64 r) ∧ Below w.heap.size w w' := by
 have Ob := Tryz.underlying60;have SL := Tryz.underlying45;have HB := yf.mk (Below.refl w.heap.size w)
 have H : ((cmp_Compare_int.f yj Cz).bind fun t159 => ((cmp_Compare_int.f Pm CK).bind fun t160 => ((Ch.f k (([t159,t160] : List Int))).bind fun t164 => (some t164)))) = some r := h
 clear h;obtain ⟨t159,A3,H⟩ := bE H
 try dsimp only at H
 obtain ⟨t160,A4,H⟩ := bE H
 try dsimp only at H
 obtain ⟨ai,ah⟩ : ∃ y_ : List Int,y_ = (([t159,t160] : List Int)) := ⟨_,rfl⟩
 replace H : ((Ch.f k ai).bind fun t164 => (some t164)) = some r := by (rw [ah];with_reducible exact H)
 have ak := yf.mk ah;clear ah;obtain ⟨t164,A5,H⟩ := bE H
 try dsimp only at H
 obtain rfl := Option.some.inj H
 go_enter Tryz.func25,Tryz.ntmps25
 try go_wp2_with (first | ((with_reducible refine yG (N := 2) rfl ?_);refine yD rfl (N := 2) rfl (cs := #[.int .i64 yj,.int .i64 Pm,.int .i64 ym,.int .i64 yn]) (t := 60) (by go_simp) ?_;intro af hg w6 yI hb;have aa := yf.mk (yI);have ax := bG (w := w) hg;have au := bG (w := w) hg;replace HB := bS HB hb;clear hb yI hg) | ((with_reducible refine yG (N := 3) rfl ?_);refine yD rfl (N := 3) rfl (cs := #[.int .i64 Cz,.int .i64 CK]) (t := 45) (by go_simp) ?_;intro aj hg w7 yI hb;have ae := yf.mk (yI);have ay := bG (w := w) hg;have av := bG (w := w) hg;have az := Cq aa hg;have aA := Aq aa hg;replace aa := bB aa hb;replace HB := bS HB hb;clear hb yI hg))
 replace aa := yf.mk (zl aa.out);replace ae := yf.mk (zl ae.out);replace HB := yf.mk (zt HB.out)
 refine Bt (n := 13) (S := fun w' => w'.cell? ⟨af,0,none⟩ = some (.int .i64 yj) ∧ w'.cell? ⟨af,1,none⟩ = some (.int .i64 Pm) ∧ w'.cell? ⟨af,2,none⟩ = some (.int .i64 ym) ∧ w'.cell? ⟨af,3,none⟩ = some (.int .i64 yn) ∧ w'.cell? ⟨aj,0,none⟩ = some (.int .i64 Cz) ∧ w'.cell? ⟨aj,1,none⟩ = some (.int .i64 CK)) (ds := []) (bz 13 0) (by kernel_rfl) rfl rfl (MZ aa (bc2 ae)) (fun hHeld => ?_);refine Ab Bj.a2R Bj.VH (fun yJ Bv => ?_)
 generalize w7.drew = w8 at aa ae HB hHeld ⊢;refine pU 0 5 13 1 yJ ?_;refine pU 2 7 13 5 yJ ?_;refine pU 5 10 13 37 yJ ?_;refine pU 7 12 13 165 yJ ?_
 refine Co 1 6 13 167 yJ Bv hHeld ?_
 refine Co 3 8 13 175 yJ Bv hHeld ?_
 refine Co 6 11 13 239 yJ Bv hHeld ?_
 refine Co 8 13 13 495 yJ Bv hHeld ?_
 refine CB (i := 4) (N := some 9) (bz 13 511) rfl rfl (Ar yJ.out (by kernel_rfl)) (by decide) (fun K hK => ?_)
 refine gO Tryz.func28 #[.int .i64 yj,.int .i64 Cz] ?_
 with_reducible refine (cmp_Compare_int.calls yj Cz t159 _ A3.out).mono ?_
 rintro e w' ⟨rfl,⟨nd,rfl⟩⟩
 refine ⟨_,rfl,?_⟩
 refine hK.out _ _ (MZ aa (bc2 ae)) (fun hHeld => ?_)
 clear hK K
 refine AU (a' := ?_) ?_ ?_
 rotate_left
 ·
  show Act.put _ (some 9) _ = _
  simp only [pz]
  rfl
 refine CB (i := 9) (N := some 14) (bz 13 1023) rfl rfl (Ar yJ.out (by kernel_rfl)) (by decide) (fun K hK => ?_)
 refine gO Tryz.func28 #[.int .i64 Pm,.int .i64 CK] ?_
 with_reducible refine (cmp_Compare_int.calls Pm CK t160 _ A4.out).mono ?_
 rintro e w' ⟨rfl,⟨nd,rfl⟩⟩
 refine ⟨_,rfl,?_⟩
 refine hK.out _ _ (MZ aa (bc2 ae)) (fun hHeld => ?_)
 clear hK K
 refine AU (a' := ?_) ?_ ?_
 rotate_left
 ·
  show Act.put _ (some 14) _ = _
  simp only [pz]
  rfl
 refine CB (i := 10) (N := some 15) (bz 13 2047) rfl rfl (Ar yJ.out (by kernel_rfl)) (by decide) (fun K hK => ?_)
 refine Kd.MV (Kd.int .i64) _ 3 ?hg (N := 15) ?hd (xs := ([t159,t160] : List Int)) (inner := [.int .i64 t159,.int .i64 t160]) (ok := fun _ => True) (okp := fun _ => True) ?hr ?hp (fun _ hk => hk) trivial (Below.refl _ _) (Nat.le_refl _) (by simp) ?_;(case hd => rfl);(case hg => rfl);(case hr => go_simp);(case hp => exact (BQ.one (show Kd.M (Kd.int .i64) _ _ _ t159 [.int .i64 t159] from rfl) (BQ.one (show Kd.M (Kd.int .i64) _ _ _ t160 [.int .i64 t160] from rfl) (BQ.none _ _))))
 intro v162 w9 SK hb JY DL
 clear JY DL
 (rw [← ak.out] at SK)
 have ag := yf.mk (Kd.AC SK (yF (bO HB)));replace aa := bB aa hb;replace ae := bB ae hb;replace HB := bS HB hb;clear hb SK;obtain ⟨Uu,S9,Sn⟩ := Kd.zB ag.out
 (subst Sn)
 refine hK.out _ _ (MZ aa (bc2 ae)) (fun hHeld => ?_)
 clear hK K
 refine AU (a' := ?_) ?_ ?_
 rotate_left
 ·
  show Act.put _ (some 15) _ = _
  simp only [pz]
  rfl
 refine CB (i := 11) (N := some 16) (bz 13 4095) rfl rfl (Ar yJ.out (by kernel_rfl)) (by decide) (fun K hK => ?_)
 refine gO Tryz.func53 #[.slice Uu ai.length S9] ?_
 with_reducible refine (Ch.calls k _ _ ai t164 _ ?yB ?yC A5.out).mono ?_
 (case yB => exact Jq ag)
 (case yC => exact (Kd.zb ag.out).2.1)
 rintro e w' ⟨rfl,⟨nd,rfl⟩⟩
 refine ⟨_,rfl,?_⟩
 refine hK.out _ _ (MZ aa (bc2 ae)) (fun hHeld => ?_)
 clear hK K
 refine AU (a' := ?_) ?_ ?_
 rotate_left
 ·
  show Act.put _ (some 16) _ = _
  simp only [pz]
  rfl
 refine pU 12 4 13 8191 yJ ?_
 refine Cn (AZ yJ.out (by kernel_rfl)) ?_
 try go_wp2
 go_ret
 exact ⟨by rfl,bO HB⟩
def yt.l0 : Nat → List (AP) → Int → Int → Int → Int → Int → Option (Int × Bool)
 | 0,_,_,_,_,_,_ => none
 | k + 1,x0,x8,x9,EU,aa,ae => if x9 < EU then (if 0 ≤ (wrap64 ((IntKind.u64.wrap (wrap64 (x9 + EU))) / 2)) then (if (wrap64 ((IntKind.u64.wrap (wrap64 (x9 + EU))) / 2)) < (x0.length : Int) then ((Bj.f k ((yh x0 (wrap64 ((IntKind.u64.wrap (wrap64 (x9 + EU))) / 2))).f0) ((yh x0 (wrap64 ((IntKind.u64.wrap (wrap64 (x9 + EU))) / 2))).f1) ((yh x0 (wrap64 ((IntKind.u64.wrap (wrap64 (x9 + EU))) / 2))).f2.f0) ((yh x0 (wrap64 ((IntKind.u64.wrap (wrap64 (x9 + EU))) / 2))).f2.f1) aa ae).bind fun t167 => (if t167 < 0 then (yt.l0 k x0 x8 (wrap64 ((wrap64 ((IntKind.u64.wrap (wrap64 (x9 + EU))) / 2)) + 1)) EU aa ae) else (yt.l0 k x0 x8 x9 (wrap64 ((IntKind.u64.wrap (wrap64 (x9 + EU))) / 2)) aa ae))) else (none)) else (none)) else (if x9 < x8 then (if 0 ≤ x9 then (if x9 < (x0.length : Int) then ((Bj.f k ((yh x0 x9).f0) ((yh x0 x9).f1) ((yh x0 x9).f2.f0) ((yh x0 x9).f2.f1) aa ae).bind fun a2J => (some (x9,(a2J == 0)))) else (none)) else (none)) else (some (x9,false)))
def yt.f (k : Nat) (l0 : List (AP)) (Cz : Int) (CK : Int)  : Option (Int × Bool) := yt.l0 k l0 (l0.length : Int) 0 (l0.length : Int) Cz CK
def yt.T5 : Bool × List (List Nat × List Nat) := (true,[([],[]),([],[]),([],[]),([1,2],[1,2]),([3],[3]),([],[]),([0,4,5],[0,4,5]),([6],[6])])
def yt.B5 : List Nat := [0,0,0,6,14,0,63,127]
theorem yt.Zx : Dv .any (opsOf Tryz.f24 5) = yt.T5 := by kernel_rfl
theorem yt.Tw : BH yt.T5.2 yt.B5 = true := by kernel_rfl
def yt.T8 : Bool × List (List Nat × List Nat) := (true,[([],[]),([],[]),([],[]),([1,2],[1,2]),([3],[3]),([4],[4]),([4],[4]),([4],[4]),([6,7,4],[4,6,7]),([8,4],[4,8]),([4],[4]),([5,9,10,4,4],[4,5,9,10]),([11,4],[4,11]),([4,12],[4,12]),([0,11,0],[0]),([13,14,0,1,2,3,4,5,6,7,8,9,10,11,12,13,14],[13])])
def yt.B8 : List Nat := [0,0,0,6,14,30,30,30,222,478,30,2046,4094,8190,4095,32767]
theorem yt.a5l : Dv .any (opsOf Tryz.f24 8) = yt.T8 := by kernel_rfl
theorem yt.ZO : BH yt.T8.2 yt.B8 = true := by kernel_rfl
set_option maxHeartbeats 8000000 in
set_option maxRecDepth 100000 in
theorem yt.calls (k : Nat) (A0 : Option Addr) (c0 : Nat) (l0 : List (AP)) (Cz : Int) (CK : Int)  (r1 : Int) (r2 : Bool) (w : World) (hr0 : Kd.C DN w A0 l0.length l0) (hc0 : l0.length ≤ c0) (h : yt.f k l0 Cz CK = some (r1,r2)) :
  Calls Tryz.prog 24 #[.slice A0 l0.length c0,.agg #[.int .i64 Cz,.int .i64 CK],(.func (.func 25) #[] #[])] w fun e w' => e = .returned (.tuple #[.int .i64 r1,.bool r2]) ∧ Below w.heap.size w w' := by
 have SL := Tryz.underlying45;have Ob := Tryz.underlying60;have MS := yf.mk hr0;have Yy := yf.mk hc0;clear hr0 hc0;have HB := yf.mk (Below.refl w.heap.size w)
 have H : (yt.l0 k l0 (l0.length : Int) 0 (l0.length : Int) Cz CK) = some (r1,r2) := h
 clear h;have H' := yf.mk H;clear H
 go_enter Tryz.func24,Tryz.ntmps24
 go_wp2_with (((with_reducible refine yG (N := 4) rfl ?_);refine yD rfl (N := 4) rfl (cs := #[.int .i64 Cz,.int .i64 CK]) (t := 45) (by go_simp) ?_;intro ak hg w4 yI hb;have aa := yf.mk (yI);have aU := bG (w := w) hg;have aT := bG (w := w) hg;replace HB := bS HB hb;clear hb yI hg))
 go_loopg [9,10] k (fun kq v9 v10 w' => ∃ (BJ : Int) (Ew : Int),v9 = .int .i64 BJ ∧ v10 = .int .i64 Ew ∧ yf (yt.l0 kq l0 (l0.length : Int) BJ Ew Cz CK = some (r1,r2)) ∧ yf (kq ≤ k) ∧ yf (w'.heap[ak]? = some (.cells #[.int .i64 Cz,.int .i64 CK] 45 (0,0))) ∧ yf (Below w.heap.size w w'))
 case atStart => exact ⟨(0),((l0.length : Int)),(by rfl),(by rfl),H',⟨Nat.le_refl _⟩,⟨kk aa⟩,⟨bO HB⟩⟩
 case round =>
 clear H';obtain ⟨BJ,Ew,rfl,rfl,HA,Bn,aa,HB⟩ := hrel
 cases gk with
 | zero => exact absurd HA.out (by simp [yt.l0])
 | succ k1 =>
 have H := HA.out;clear HA;simp only [yt.l0] at H
 by_cases c5 : BJ < Ew
 rotate_left
 ·
  rw [if_neg c5] at H;have ES := decide_eq_false c5;clear c5
  by_cases c15 : BJ < (l0.length : Int)
  rotate_left
  ·
   rw [if_neg c15] at H;have Iy := decide_eq_false c15;clear c15;simp only [Option.some.injEq,Prod.mk.injEq] at H;obtain ⟨rfl,rfl⟩ := H
   try go_wp2
   replace aa := yf.mk (zl aa.out);replace HB := yf.mk (zt HB.out)
   refine Bt (n := 16) (S := fun w' => True) (ds := []) (bz 16 0) (by kernel_rfl) rfl rfl trivial (fun hHeld => ?_);refine Ab yt.a5l yt.ZO (fun yJ Bv => ?_)
   generalize wr.drew = w21 at aa HB hHeld ⊢;refine pU 0 35 16 1 yJ ?_;refine pU 1 36 16 3 yJ ?_;refine pU 2 37 16 7 yJ ?_;refine pU 3 38 16 15 yJ ?_;refine pU 4 39 16 31 yJ ?_;refine pN 5 40 16 63 yJ ?_;refine pN 6 41 16 127 yJ ?_;refine pN 7 42 16 255 yJ ?_;refine pN 8 43 16 511 yJ ?_;refine pN 9 44 16 1023 yJ ?_;refine pN 10 45 16 2047 yJ ?_;refine pN 11 46 16 4095 yJ ?_;refine pN 12 47 16 8191 yJ ?_;refine pU 13 48 16 16383 yJ ?_;refine pU 14 6 16 32767 yJ ?_;refine pU 15 7 16 65535 yJ ?_
   refine Cn (AZ yJ.out (by kernel_rfl)) ?_
   try go_wp2
   go_ret2
   exact ⟨by rfl,bO HB⟩
  rw [if_pos c15] at H;have Iy := decide_eq_true c15;clear c15
  by_cases c16 : 0 ≤ BJ
  rotate_left
  ·
   rw [if_neg c16] at H;exact absurd H (by simp)
  rw [if_pos c16] at H;have FC := decide_eq_true c16;clear c16
  by_cases c17 : BJ < (l0.length : Int)
  rotate_left
  ·
   rw [if_neg c17] at H;exact absurd H (by simp)
  rw [if_pos c17] at H;have Nc := decide_eq_true c17;clear c17;obtain ⟨a2J,A18,H⟩ := bE H
  try dsimp only at H
  simp only [Option.some.injEq,Prod.mk.injEq] at H;obtain ⟨rfl,rfl⟩ := H
  try go_wp2
  replace aa := yf.mk (zl aa.out);replace HB := yf.mk (zt HB.out)
  have aI : 0 ≤ (BJ : Int) := of_decide_eq_true ‹_›
  have aJ : BJ < (l0.length : Int) := of_decide_eq_true ‹_›
  obtain ⟨aj,e168,aC,aD,aG,aH⟩ := Ck MS.out BJ aI aJ;have aQ := aH;have aN := aG;have aM := aD;have aK := aC;cases e168;replace aC := cB HB aC;replace aD := cB HB aD;replace aG := cB HB aG;replace aH := cB HB aH;replace aI := eq_true aI;replace aJ := eq_true aJ
  refine Bt (n := 16) (S := fun w' => w'.cell? ⟨ak,0,none⟩ = some (.int .i64 Cz) ∧ w'.cell? ⟨ak,1,none⟩ = some (.int .i64 CK) ∧ w'.cell? (aj.add ((BJ).toNat * 4)) = some (.int .i64 ((yh l0 BJ).f0)) ∧ w'.cell? ⟨(aj.add ((BJ).toNat * 4)).block,(aj.add ((BJ).toNat * 4)).off + 1,none⟩ = some (.int .i64 ((yh l0 BJ).f1)) ∧ w'.cell? ⟨(aj.add ((BJ).toNat * 4)).block,(aj.add ((BJ).toNat * 4)).off + 2,none⟩ = some (.int .i64 ((yh l0 BJ).f2.f0)) ∧ w'.cell? ⟨(aj.add ((BJ).toNat * 4)).block,(aj.add ((BJ).toNat * 4)).off + 3,none⟩ = some (.int .i64 ((yh l0 BJ).f2.f1))) (ds := []) (bz 16 0) (by kernel_rfl) rfl rfl ⟨(yx aa.out 0).trans rfl,(yx aa.out 1).trans rfl,(cB HB aK),(cB HB aM),(cB HB aN),(cB HB aQ)⟩ (fun hHeld => ?_);refine Ab yt.a5l yt.ZO (fun yJ Bv => ?_)
  generalize wr.drew = w19 at aa HB aC aD aG aH hHeld ⊢;refine pU 0 35 16 1 yJ ?_;refine pU 1 36 16 3 yJ ?_;refine pU 2 37 16 7 yJ ?_;refine pU 3 38 16 15 yJ ?_;refine pU 4 39 16 31 yJ ?_;refine pU 5 40 16 63 yJ ?_;refine pU 6 41 16 127 yJ ?_;refine pU 7 42 16 255 yJ ?_;refine pU 8 43 16 511 yJ ?_
  refine Co 9 44 16 1023 yJ Bv hHeld ?_
  refine Co 10 45 16 2047 yJ Bv hHeld ?_
  refine CB (i := 11) (N := some 46) (bz 16 4095) rfl rfl (Ar yJ.out (by kernel_rfl)) (by decide) (fun K hK => ?_)
  refine SE Tryz.func25 (by kernel_rfl) rfl #[.agg #[.int .i64 ((yh l0 BJ).f0),.int .i64 ((yh l0 BJ).f1),.int .i64 ((yh l0 BJ).f2.f0),.int .i64 ((yh l0 BJ).f2.f1)],.agg #[.int .i64 Cz,.int .i64 CK]] (by rfl) rfl rfl (by (try simp only [pm]);rfl) ?_
  with_reducible refine (Bj.calls k1 ((yh l0 BJ).f0) ((yh l0 BJ).f1) ((yh l0 BJ).f2.f0) ((yh l0 BJ).f2.f1) Cz CK a2J _ A18.out).mono ?_
  rintro e w20 ⟨rfl,hb⟩
  refine ⟨_,rfl,?_⟩
  replace aa := bB aa hb;replace HB := bS HB hb;clear hb
  refine hK.out _ _ ⟨(yx aa.out 0).trans rfl,(yx aa.out 1).trans rfl,(cB HB aK),(cB HB aM),(cB HB aN),(cB HB aQ)⟩ (fun hHeld => ?_)
  clear hK K
  refine AU (a' := ?_) ?_ ?_
  rotate_left
  ·
   show Act.put _ (some 46) _ = _
   simp only [pz]
   rfl
  refine pU 12 47 16 8191 yJ ?_;refine pU 13 48 16 16383 yJ ?_;refine pU 14 6 16 32767 yJ ?_;refine pU 15 7 16 65535 yJ ?_
  refine Cn (AZ yJ.out (by kernel_rfl)) ?_
  try go_wp2
  go_ret2
  exact ⟨by rfl,bO HB⟩
 rw [if_pos c5] at H;have ES := decide_eq_true c5;clear c5;obtain ⟨DV,Z8⟩ : ∃ j_ : Int,(wrap64 ((IntKind.u64.wrap (wrap64 (BJ + Ew))) / 2)) = j_ := ⟨_,rfl⟩
 replace H : (if 0 ≤ (DV) then (if (DV) < (l0.length : Int) then ((Bj.f k1 ((yh l0 (DV)).f0) ((yh l0 (DV)).f1) ((yh l0 (DV)).f2.f0) ((yh l0 (DV)).f2.f1) Cz CK).bind fun t167 => (if t167 < 0 then (yt.l0 k1 l0 (l0.length : Int) (wrap64 ((DV) + 1)) Ew Cz CK) else (yt.l0 k1 l0 (l0.length : Int) BJ DV Cz CK))) else (none)) else (none)) = some (r1,r2) := by (rw [Z8] at H;exact H)
 have hji6w : (IntKind.i64.wrap ((IntKind.u64.wrap (wrap64 (BJ + Ew))) / 2)) = DV := (i64_w _).trans Z8
 by_cases c7 : 0 ≤ (DV)
 rotate_left
 ·
  rw [if_neg c7] at H;exact absurd H (by simp)
 rw [if_pos c7] at H;have GL := decide_eq_true c7;clear c7
 by_cases c8 : (DV) < (l0.length : Int)
 rotate_left
 ·
  rw [if_neg c8] at H;exact absurd H (by simp)
 rw [if_pos c8] at H;have GN := decide_eq_true c8;clear c8;obtain ⟨t167,A9,H⟩ := bE H
 try dsimp only at H
 by_cases c10 : t167 < 0
 ·
  rw [if_pos c10] at H;have Fu := decide_eq_true c10;clear c10;have H' := yf.mk H;clear H
  try go_wp2
  replace aa := yf.mk (zl aa.out);replace HB := yf.mk (zt HB.out)
  have au : 0 ≤ ((DV) : Int) := of_decide_eq_true ‹_›
  have av : (DV) < (l0.length : Int) := of_decide_eq_true ‹_›
  obtain ⟨ae,e166,af,ag,ah,ai⟩ := Ck MS.out (DV) au av;have aA := ai;have az := ah;have ay := ag;have ax := af;cases e166;replace af := cB HB af;replace ag := cB HB ag;replace ah := cB HB ah;replace ai := cB HB ai;replace au := eq_true au;replace av := eq_true av
  refine Bt (n := 8) (S := fun w' => w'.cell? ⟨ak,0,none⟩ = some (.int .i64 Cz) ∧ w'.cell? ⟨ak,1,none⟩ = some (.int .i64 CK) ∧ w'.cell? (ae.add (((DV)).toNat * 4)) = some (.int .i64 ((yh l0 (DV)).f0)) ∧ w'.cell? ⟨(ae.add (((DV)).toNat * 4)).block,(ae.add (((DV)).toNat * 4)).off + 1,none⟩ = some (.int .i64 ((yh l0 (DV)).f1)) ∧ w'.cell? ⟨(ae.add (((DV)).toNat * 4)).block,(ae.add (((DV)).toNat * 4)).off + 2,none⟩ = some (.int .i64 ((yh l0 (DV)).f2.f0)) ∧ w'.cell? ⟨(ae.add (((DV)).toNat * 4)).block,(ae.add (((DV)).toNat * 4)).off + 3,none⟩ = some (.int .i64 ((yh l0 (DV)).f2.f1))) (ds := []) (bz 8 0) (by kernel_rfl) rfl rfl ⟨(yx aa.out 0).trans rfl,(yx aa.out 1).trans rfl,(cB HB ax),(cB HB ay),(cB HB az),(cB HB aA)⟩ (fun hHeld => ?_);refine Ab yt.Zx yt.Tw (fun yJ Bv => ?_)
  generalize wr.drew = w11 at aa HB af ag ah ai hHeld ⊢;refine pU 0 24 8 1 yJ ?_;refine pU 1 25 8 3 yJ ?_;refine pU 2 26 8 7 yJ ?_;refine pU 3 27 8 15 yJ ?_
  refine Co 4 28 8 31 yJ Bv hHeld ?_
  refine Co 5 29 8 63 yJ Bv hHeld ?_
  refine CB (i := 6) (N := some 30) (bz 8 127) rfl rfl (Ar yJ.out (by kernel_rfl)) (by decide) (fun K hK => ?_)
  refine SE Tryz.func25 (by kernel_rfl) rfl #[.agg #[.int .i64 ((yh l0 (DV)).f0),.int .i64 ((yh l0 (DV)).f1),.int .i64 ((yh l0 (DV)).f2.f0),.int .i64 ((yh l0 (DV)).f2.f1)],.agg #[.int .i64 Cz,.int .i64 CK]] (by rfl) rfl rfl (by (try simp only [List.map_toArray,List.map_cons,List.map_nil]);rfl) ?_
  with_reducible refine (Bj.calls k1 ((yh l0 (DV)).f0) ((yh l0 (DV)).f1) ((yh l0 (DV)).f2.f0) ((yh l0 (DV)).f2.f1) Cz CK t167 _ A9.out).mono ?_
  rintro e w12 ⟨rfl,hb⟩
  refine ⟨_,rfl,?_⟩
  replace aa := bB aa hb;replace HB := bS HB hb;clear hb
  refine hK.out _ _ ⟨(yx aa.out 0).trans rfl,(yx aa.out 1).trans rfl,(cB HB ax),(cB HB ay),(cB HB az),(cB HB aA)⟩ (fun hHeld => ?_)
  clear hK K
  refine AU (a' := ?_) ?_ ?_
  rotate_left
  ·
   show Act.put _ (some 30) _ = _
   simp only [pz]
   rfl
  refine pU 7 31 8 255 yJ ?_
  refine Cn (AZ yJ.out (by kernel_rfl)) ?_
  try go_wp2
  go_roundg k1
  case measure => have := Bn.out;omega
  case rel => exact ⟨(wrap64 ((DV) + 1)),(Ew),(by rfl),(by rfl),H',⟨by have := Bn.out;omega⟩,⟨kk aa⟩,⟨bO HB⟩⟩
 rw [if_neg c10] at H;have Fu := decide_eq_false c10;clear c10;have H' := yf.mk H;clear H
 try go_wp2
 replace aa := yf.mk (zl aa.out);replace HB := yf.mk (zt HB.out)
 have au : 0 ≤ ((DV) : Int) := of_decide_eq_true ‹_›
 have av : (DV) < (l0.length : Int) := of_decide_eq_true ‹_›
 obtain ⟨ae,e166,af,ag,ah,ai⟩ := Ck MS.out (DV) au av;have aA := ai;have az := ah;have ay := ag;have ax := af;cases e166;replace af := cB HB af;replace ag := cB HB ag;replace ah := cB HB ah;replace ai := cB HB ai;replace au := eq_true au;replace av := eq_true av
 refine Bt (n := 8) (S := fun w' => w'.cell? ⟨ak,0,none⟩ = some (.int .i64 Cz) ∧ w'.cell? ⟨ak,1,none⟩ = some (.int .i64 CK) ∧ w'.cell? (ae.add (((DV)).toNat * 4)) = some (.int .i64 ((yh l0 (DV)).f0)) ∧ w'.cell? ⟨(ae.add (((DV)).toNat * 4)).block,(ae.add (((DV)).toNat * 4)).off + 1,none⟩ = some (.int .i64 ((yh l0 (DV)).f1)) ∧ w'.cell? ⟨(ae.add (((DV)).toNat * 4)).block,(ae.add (((DV)).toNat * 4)).off + 2,none⟩ = some (.int .i64 ((yh l0 (DV)).f2.f0)) ∧ w'.cell? ⟨(ae.add (((DV)).toNat * 4)).block,(ae.add (((DV)).toNat * 4)).off + 3,none⟩ = some (.int .i64 ((yh l0 (DV)).f2.f1))) (ds := []) (bz 8 0) (by kernel_rfl) rfl rfl ⟨(yx aa.out 0).trans rfl,(yx aa.out 1).trans rfl,(cB HB ax),(cB HB ay),(cB HB az),(cB HB aA)⟩ (fun hHeld => ?_);refine Ab yt.Zx yt.Tw (fun yJ Bv => ?_)
 generalize wr.drew = w13 at aa HB af ag ah ai hHeld ⊢;refine pU 0 24 8 1 yJ ?_;refine pU 1 25 8 3 yJ ?_;refine pU 2 26 8 7 yJ ?_;refine pU 3 27 8 15 yJ ?_
 refine Co 4 28 8 31 yJ Bv hHeld ?_
 refine Co 5 29 8 63 yJ Bv hHeld ?_
 refine CB (i := 6) (N := some 30) (bz 8 127) rfl rfl (Ar yJ.out (by kernel_rfl)) (by decide) (fun K hK => ?_)
 refine SE Tryz.func25 (by kernel_rfl) rfl #[.agg #[.int .i64 ((yh l0 (DV)).f0),.int .i64 ((yh l0 (DV)).f1),.int .i64 ((yh l0 (DV)).f2.f0),.int .i64 ((yh l0 (DV)).f2.f1)],.agg #[.int .i64 Cz,.int .i64 CK]] (by rfl) rfl rfl (by (try simp only [List.map_toArray,List.map_cons,List.map_nil]);rfl) ?_
 with_reducible refine (Bj.calls k1 ((yh l0 (DV)).f0) ((yh l0 (DV)).f1) ((yh l0 (DV)).f2.f0) ((yh l0 (DV)).f2.f1) Cz CK t167 _ A9.out).mono ?_
 rintro e w14 ⟨rfl,hb⟩
 refine ⟨_,rfl,?_⟩
 replace aa := bB aa hb;replace HB := bS HB hb;clear hb
 refine hK.out _ _ ⟨(yx aa.out 0).trans rfl,(yx aa.out 1).trans rfl,(cB HB ax),(cB HB ay),(cB HB az),(cB HB aA)⟩ (fun hHeld => ?_)
 clear hK K
 refine AU (a' := ?_) ?_ ?_
 rotate_left
 ·
  show Act.put _ (some 30) _ = _
  simp only [pz]
  rfl
 refine pU 7 31 8 255 yJ ?_
 refine Cn (AZ yJ.out (by kernel_rfl)) ?_
 try go_wp2
 go_roundg k1
 case measure => have := Bn.out;omega
 case rel => exact ⟨(BJ),(DV),(by rfl),(by rfl),H',⟨by have := Bn.out;omega⟩,⟨kk aa⟩,⟨bO HB⟩⟩
def D7.f (k : Nat) (yj : Int) (yg : List (List Int)) (ym : Int) (yn : Int) (Aj : List (AP)) (Au : Int) (Ah : Int) (a1 : Int) (a2 : Int) : Option (Int × Int) := (yt.f k Aj a1 a2).bind fun J2 => (if J2.2 = true then (if 0 ≤ J2.1 then (if J2.1 < (Aj.length : Int) then (some ((yh Aj J2.1).f2.f0,(yh Aj J2.1).f2.f1)) else (none)) else (none)) else ((Ct.f k yj yg ym yn a1 a2).bind fun Qd => (some (Qd.1,Qd.2.1))))
set_option maxHeartbeats 8000000 in
set_option maxRecDepth 100000 in
theorem D7.calls (k : Nat) (yj : Int) (yK : Option Addr) (yE : Nat) (yg : List (List Int)) (ym : Int) (yn : Int) (Eg : Option Addr) (Ea : Nat) (Aj : List (AP)) (Au : Int) (Ah : Int) (a1 : Int) (a2 : Int) (r1 : Int) (r2 : Int) (w : World) (zS : Kd.C (Kd.slice 3 (Kd.int .i64)) w yK yg.length yg) (zT : yg.length ≤ yE) (FZ : Kd.C DN w Eg Aj.length Aj) (FY : Aj.length ≤ Ea) (h : D7.f k yj yg ym yn Aj Au Ah a1 a2 = some (r1,r2)) :
  Calls Tryz.prog 34 #[.agg #[.int .i64 yj,.slice yK yg.length yE,.int .i64 ym,.int .i64 yn,.slice Eg Aj.length Ea,.int .i64 Au,.int .i64 Ah],.int .i64 a1,.int .i64 a2] w fun e w' => e = .returned (.agg #[.int .i64 r1,.int .i64 r2]) ∧ Below w.heap.size w w' := by
 have Mq := Tryz.underlying65;have KE := Tryz.underlying51;have SL := Tryz.underlying45;have ET := Tryz.underlying29;have zk := yf.mk zS;have zq := yf.mk zT;clear zS zT;have Fa := yf.mk FZ;have Hy := yf.mk FY;clear FZ FY;have HB := yf.mk (Below.refl w.heap.size w)
 have H : ((yt.f k Aj a1 a2).bind fun J2 => (if J2.2 = true then (if 0 ≤ J2.1 then (if J2.1 < (Aj.length : Int) then (some ((yh Aj J2.1).f2.f0,(yh Aj J2.1).f2.f1)) else (none)) else (none)) else ((Ct.f k yj yg ym yn a1 a2).bind fun Qd => (some (Qd.1,Qd.2.1))))) = some (r1,r2) := h
 clear h;obtain ⟨⟨af,aU⟩,A4,H⟩ := bE H
 try dsimp only at H
 by_cases c5 : aU = true
 rotate_left
 ·
  replace c5 := Bool.eq_false_iff.mpr c5;subst c5
  rw [if_neg (show ¬ (false = true) by decide)] at H
  obtain ⟨⟨aA,aC,aV⟩,Yj,H⟩ := bE H
  try dsimp only at H
  simp only [Option.some.injEq,Prod.mk.injEq] at H;obtain ⟨rfl,rfl⟩ := H
  go_enter Tryz.func34,Tryz.ntmps34
  go_wp2_with (first | ((with_reducible refine yG (N := 3) rfl ?_);refine yD rfl (N := 3) rfl (cs := #[.int .i64 yj,.slice yK yg.length yE,.int .i64 ym,.int .i64 yn,.slice Eg Aj.length Ea,.int .i64 Au,.int .i64 Ah]) (t := 65) (by go_simp) ?_;intro aT hg w16 yI hb;have aa := yf.mk (yI);have aH := bG (w := w) hg;have aD := bG (w := w) hg;replace HB := bS HB hb;clear hb yI hg) | ((with_reducible refine yG (N := 6) rfl ?_);refine yD rfl (N := 6) rfl (cs := #[.int .i64 0,.int .i64 0]) (t := 51) (by go_simp) ?_;intro ai hg w17 yI hb;have ae := yf.mk (yI);have aI := bG (w := w) hg;have aG := bG (w := w) hg;have ag := Cq aa hg;have ah := Aq aa hg;replace aa := bB aa hb;replace HB := bS HB hb;clear hb yI hg;have a0t := ag.out;have a0K := ah.out;have TJ := Fy aa;have TQ := bf aa) | ((with_reducible refine yz (f := 24) rfl ?_);refine gL (some 17) Tryz.func24 #[.slice Eg Aj.length Ea,.agg #[.int .i64 a1,.int .i64 a2],(.func (.func 25) #[] #[])] ?_;(with_reducible refine (yt.calls k _ _ Aj a1 a2  af false _ ?yB ?yC A4.out).mono ?_);(case yB => exact CU Fa);(case yC => exact Hy.out);rintro e w20 ⟨rfl,hb⟩;refine ⟨_,rfl,?_⟩;replace aa := bB aa hb;replace ae := bB ae hb;replace HB := bS HB hb;clear hb;have JH := Fy aa;have JJ := bf aa) | ((with_reducible refine yz (f := 33) rfl ?_);refine gL (some 32) Tryz.func33 #[.agg #[.int .i64 yj,.slice yK yg.length yE,.int .i64 ym,.int .i64 yn],.int .i64 a1,.int .i64 a2] ?_;(with_reducible refine (Ct.calls k yj _ _ yg ym yn a1 a2 aA aC aV _ ?yB ?yC Yj.out).mono ?_);(case yB => exact CU zk);(case yC => exact zq.out);rintro e w22 ⟨rfl,hb⟩;refine ⟨_,rfl,?_⟩;replace aa := bB aa hb;replace ae := bB ae hb;replace HB := bS HB hb;clear hb) | ((with_reducible refine yG (N := 9) rfl ?_);refine yD rfl (N := 9) rfl (cs := #[.int .i64 0,.int .i64 0]) (t := 51) (by go_simp) ?_;intro aZ hg w23 yI hb;have au := yf.mk (yI);have aX := bG (w := w) hg;have aW := bG (w := w) hg;have aJ := Cq aa hg;have aM := Aq aa hg;have aK := Cq ae hg;have aN := Aq ae hg;replace aa := bB aa hb;replace ae := bB ae hb;replace HB := bS HB hb;clear hb yI hg;have TW := aM.out;have U8 := aJ.out;have X4 := aN.out;have Xh := aK.out;have a3H := bc2 au;have a3V := bf au;have IC := bc2 ae;have II := bf ae))
  refine bodyPost_ret (results_cell_row rfl _ _ ai 51 #[.int .i64 aA,.int .i64 aC] (0,0) _ rfl (CY ae rfl) Tryz.underlying51 rfl (by kernel_rfl)) rfl ?_
  exact ⟨by rfl,bO HB⟩
 subst c5;rw [if_pos rfl] at H
 by_cases c6 : 0 ≤ af
 rotate_left
 ·
  rw [if_neg c6] at H;exact absurd H (by simp)
 rw [if_pos c6] at H;have Eu := decide_eq_true c6;clear c6
 by_cases c7 : af < (Aj.length : Int)
 rotate_left
 ·
  rw [if_neg c7] at H;exact absurd H (by simp)
 rw [if_pos c7] at H;have GL := decide_eq_true c7;clear c7;simp only [Option.some.injEq,Prod.mk.injEq] at H;obtain ⟨rfl,rfl⟩ := H
 go_enter Tryz.func34,Tryz.ntmps34
 go_wp2_with (first | ((with_reducible refine yG (N := 3) rfl ?_);refine yD rfl (N := 3) rfl (cs := #[.int .i64 yj,.slice yK yg.length yE,.int .i64 ym,.int .i64 yn,.slice Eg Aj.length Ea,.int .i64 Au,.int .i64 Ah]) (t := 65) (by go_simp) ?_;intro aT hg w8 yI hb;have aa := yf.mk (yI);have aH := bG (w := w) hg;have aD := bG (w := w) hg;replace HB := bS HB hb;clear hb yI hg) | ((with_reducible refine yG (N := 6) rfl ?_);refine yD rfl (N := 6) rfl (cs := #[.int .i64 0,.int .i64 0]) (t := 51) (by go_simp) ?_;intro ai hg w9 yI hb;have ae := yf.mk (yI);have aI := bG (w := w) hg;have aG := bG (w := w) hg;have ag := Cq aa hg;have ah := Aq aa hg;replace aa := bB aa hb;replace HB := bS HB hb;clear hb yI hg;have WX := ag.out;have Xc := ah.out;have Kt := Fy aa;have KA := bf aa) | ((with_reducible refine yz (f := 24) rfl ?_);refine gL (some 17) Tryz.func24 #[.slice Eg Aj.length Ea,.agg #[.int .i64 a1,.int .i64 a2],(.func (.func 25) #[] #[])] ?_;(with_reducible refine (yt.calls k _ _ Aj a1 a2  af true _ ?yB ?yC A4.out).mono ?_);(case yB => exact CU Fa);(case yC => exact Hy.out);rintro e w12 ⟨rfl,hb⟩;refine ⟨_,rfl,?_⟩;replace aa := bB aa hb;replace ae := bB ae hb;replace HB := bS HB hb;clear hb;have Nw := Fy aa;have ND := bf aa;have aj : 0 ≤ (af : Int) := of_decide_eq_true ‹_›;have ak : af < (Aj.length : Int) := of_decide_eq_true ‹_›;obtain ⟨aY,aQ,av,ax,ay,az⟩ := Ck Fa.out af aj ak;cases aQ;replace av := cB HB av;replace ax := cB HB ax;replace ay := cB HB ay;replace az := cB HB az;replace aj := eq_true aj;replace ak := eq_true ak;have I6 := bc2 ae;have I7 := bf ae))
 refine bodyPost_ret (results_cell_row rfl _ _ ai 51 #[.int .i64 ((yh Aj af).f2.f0),.int .i64 ((yh Aj af).f2.f1)] (0,0) _ rfl (CY ae rfl) Tryz.underlying51 rfl (by kernel_rfl)) rfl ?_
 exact ⟨by rfl,bO HB⟩
end Go.Proofs.YtjonnfmoocijlaaGreat.P
