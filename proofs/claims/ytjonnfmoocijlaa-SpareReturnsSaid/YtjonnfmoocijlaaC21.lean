/- Texts of a claim, packed. -/
import Derived.Test.YtjonnfmoocijlaaC20
set_option linter.all false
namespace Go.Proofs.Ytjonnfmoocijlaa.P
open Go.RowKit Go.Proofs.YtjonnfmoocijlaaKW.PrintWords Go.Proofs.YtjonnfmoocijlaaKW.PrintLast Go.Proofs.YtjonnfmoocijlaaKW.PrintMore
attribute [local go_sem] zO zP Aj Ak zC zD zQ zR
def yB.l0 : Nat → List (AX) → Int → Int → Int → Int → Int → Option (Int × Bool)
 | 0, _, _, _, _, _, _ => none
 | k + 1, x0, x8, x9, F5, aa, ae => if x9 < F5 then (if 0 ≤ (wrap64 ((IntKind.u64.wrap (wrap64 (x9 + F5))) / 2)) then (if (wrap64 ((IntKind.u64.wrap (wrap64 (x9 + F5))) / 2)) < (x0.length : Int) then ((BC.f k ((yg x0 (wrap64 ((IntKind.u64.wrap (wrap64 (x9 + F5))) / 2))).f0) ((yg x0 (wrap64 ((IntKind.u64.wrap (wrap64 (x9 + F5))) / 2))).f1) ((yg x0 (wrap64 ((IntKind.u64.wrap (wrap64 (x9 + F5))) / 2))).f2.f0) ((yg x0 (wrap64 ((IntKind.u64.wrap (wrap64 (x9 + F5))) / 2))).f2.f1) aa ae).bind fun t167 => (if t167 < 0 then (yB.l0 k x0 x8 (wrap64 ((wrap64 ((IntKind.u64.wrap (wrap64 (x9 + F5))) / 2)) + 1)) F5 aa ae) else (yB.l0 k x0 x8 x9 (wrap64 ((IntKind.u64.wrap (wrap64 (x9 + F5))) / 2)) aa ae))) else (none)) else (none)) else (if x9 < x8 then (if 0 ≤ x9 then (if x9 < (x0.length : Int) then ((BC.f k ((yg x0 x9).f0) ((yg x0 x9).f1) ((yg x0 x9).f2.f0) ((yg x0 x9).f2.f1) aa ae).bind fun a2H => (some (x9, (a2H == 0)))) else (none)) else (none)) else (some (x9, false)))
def yB.f (k : Nat) (l0 : List (AX)) (CK : Int) (CQ : Int)  : Option (Int × Bool) := yB.l0 k l0 (l0.length : Int) 0 (l0.length : Int) CK CQ
def yB.T5 : Bool × List (List Nat × List Nat) := (true, [([], []), ([], []), ([], []), ([1, 2], [1, 2]), ([3], [3]), ([], []), ([0, 4, 5], [0, 4, 5]), ([6], [6])])
def yB.B5 : List Nat := [0, 0, 0, 6, 14, 0, 63, 127]
theorem yB.Zv : CZ .any (opsOf Try.f41 5) = yB.T5 := by kernel_rfl
theorem yB.Uw : BD yB.T5.2 yB.B5 = true := by kernel_rfl
def yB.T8 : Bool × List (List Nat × List Nat) := (true, [([], []), ([], []), ([], []), ([1, 2], [1, 2]), ([3], [3]), ([4], [4]), ([4], [4]), ([4], [4]), ([6, 7, 4], [4, 6, 7]), ([8, 4], [4, 8]), ([4], [4]), ([5, 9, 10, 4, 4], [4, 5, 9, 10]), ([11, 4], [4, 11]), ([4, 12], [4, 12]), ([0, 11, 0], [0]), ([13, 14, 0, 1, 2, 3, 4, 5, 6, 7, 8, 9, 10, 11, 12, 13, 14], [13])])
def yB.B8 : List Nat := [0, 0, 0, 6, 14, 30, 30, 30, 222, 478, 30, 2046, 4094, 8190, 4095, 32767]
theorem yB.Xr : CZ .any (opsOf Try.f41 8) = yB.T8 := by kernel_rfl
theorem yB.Rw : BD yB.T8.2 yB.B8 = true := by kernel_rfl
set_option maxHeartbeats 8000000 in
set_option maxRecDepth 100000 in
theorem yB.calls (k : Nat) (A0 : Option Addr) (c0 : Nat) (l0 : List (AX)) (CK : Int) (CQ : Int)  (r1 : Int) (r2 : Bool) (w : World) (hr0 : Kd.C CS w A0 l0.length l0) (hc0 : l0.length ≤ c0) (h : yB.f k l0 CK CQ = some (r1, r2)) :
  Calls Try.prog 41 #[.slice A0 l0.length c0, .agg #[.int .i64 CK, .int .i64 CQ], (.func (.func 42) #[] #[])] w fun e w' => e = .returned (.tuple #[.int .i64 r1, .bool r2]) ∧ Below w.heap.size w w' := by
 have Xq := Try.underlying81;have LC := Try.underlying47;have Li := yf.mk hr0;have Ws := yf.mk hc0;clear hr0 hc0;have HB := yf.mk (Below.refl w.heap.size w)
 have H : (yB.l0 k l0 (l0.length : Int) 0 (l0.length : Int) CK CQ) = some (r1, r2) := h
 clear h;have H' := yf.mk H;clear H
 go_enter Try.func41, Try.ntmps41
 go_wp2_with (((with_reducible refine yI (N := 4) rfl ?_); refine yG rfl (N := 4) rfl (cs := #[.int .i64 CK, .int .i64 CQ]) (t := 81) (by go_simp) ?_; intro ak hg w4 yJ hb; have aa := yf.mk (yJ); have aU := bG (w := w) hg; have aV := bG (w := w) hg; replace HB := bS HB hb; clear hb yJ hg))
 go_loopg [9, 10] k (fun kq v9 v10 w' => ∃ (Ce : Int) (aj : Int), v9 = .int .i64 Ce ∧ v10 = .int .i64 aj ∧ yf (yB.l0 kq l0 (l0.length : Int) Ce aj CK CQ = some (r1, r2)) ∧ yf (kq ≤ k) ∧ yf (w'.heap[ak]? = some (.cells #[.int .i64 CK, .int .i64 CQ] 81 (0, 0))) ∧ yf (Below w.heap.size w w'))
 case atStart => exact ⟨(0), ((l0.length : Int)), (by rfl), (by rfl), H', ⟨Nat.le_refl _⟩, ⟨kk aa⟩, ⟨bO HB⟩⟩
 case round =>
 clear H';obtain ⟨Ce, aj, rfl, rfl, HA, BJ, aa, HB⟩ := hrel
 cases gk with
 | zero => exact absurd HA.out (by simp [yB.l0])
 | succ k1 =>
 have H := HA.out;clear HA;simp only [yB.l0] at H
 by_cases c5 : Ce < aj
 rotate_left
 ·
  rw [if_neg c5] at H;have FE := decide_eq_false c5;clear c5
  by_cases c15 : Ce < (l0.length : Int)
  rotate_left
  ·
   rw [if_neg c15] at H;have OZ := decide_eq_false c15;clear c15;simp only [Option.some.injEq, Prod.mk.injEq] at H;obtain ⟨rfl, rfl⟩ := H
   try go_wp2
   replace aa := yf.mk (yO aa.out);replace HB := yf.mk (za HB.out)
   refine Bc (n := 16) (S := fun w' => True) (ds := []) (bz 16 0) (by kernel_rfl) rfl rfl trivial (fun hHeld => ?_); refine zF yB.Xr yB.Rw (fun yz Bi => ?_)
   generalize wr.drew = w21 at aa HB hHeld ⊢;refine pU 0 35 16 1 yz ?_;refine pU 1 36 16 3 yz ?_;refine pU 2 37 16 7 yz ?_;refine pU 3 38 16 15 yz ?_;refine pU 4 39 16 31 yz ?_;refine pN 5 40 16 63 yz ?_;refine pN 6 41 16 127 yz ?_;refine pN 7 42 16 255 yz ?_;refine pN 8 43 16 511 yz ?_;refine pN 9 44 16 1023 yz ?_;refine pN 10 45 16 2047 yz ?_;refine pN 11 46 16 4095 yz ?_;refine pN 12 47 16 8191 yz ?_;refine pU 13 48 16 16383 yz ?_;refine pU 14 6 16 32767 yz ?_;refine pU 15 7 16 65535 yz ?_
   refine BG (Al yz.out (by kernel_rfl)) ?_
   try go_wp2
   go_ret2
   exact ⟨by rfl, bO HB⟩
  rw [if_pos c15] at H;have OZ := decide_eq_true c15;clear c15
  by_cases c16 : 0 ≤ Ce
  rotate_left
  ·
   rw [if_neg c16] at H;exact absurd H (by simp)
  rw [if_pos c16] at H;have Fy := decide_eq_true c16;clear c16
  by_cases c17 : Ce < (l0.length : Int)
  rotate_left
  ·
   rw [if_neg c17] at H;exact absurd H (by simp)
  rw [if_pos c17] at H;have Nk := decide_eq_true c17;clear c17;obtain ⟨a2H, A18, H⟩ := bE H
  try dsimp only at H
  simp only [Option.some.injEq, Prod.mk.injEq] at H;obtain ⟨rfl, rfl⟩ := H
  try go_wp2
  replace aa := yf.mk (yO aa.out);replace HB := yf.mk (za HB.out)
  have aJ : 0 ≤ (Ce : Int) := of_decide_eq_true ‹_›
  have aK : Ce < (l0.length : Int) := of_decide_eq_true ‹_›
  obtain ⟨au, e168, aD, aG, aI, aH⟩ := BU Li.out Ce aJ aK;have aT := aH;have aM := aI;have aN := aG;have aQ := aD;cases e168;replace aD := cB HB aD;replace aG := cB HB aG;replace aI := cB HB aI;replace aH := cB HB aH;replace aJ := eq_true aJ;replace aK := eq_true aK
  refine Bc (n := 16) (S := fun w' => w'.cell? ⟨ak, 0, none⟩ = some (.int .i64 CK) ∧ w'.cell? ⟨ak, 1, none⟩ = some (.int .i64 CQ) ∧ w'.cell? (au.add ((Ce).toNat * 4)) = some (.int .i64 ((yg l0 Ce).f0)) ∧ w'.cell? ⟨(au.add ((Ce).toNat * 4)).block, (au.add ((Ce).toNat * 4)).off + 1, none⟩ = some (.int .i64 ((yg l0 Ce).f1)) ∧ w'.cell? ⟨(au.add ((Ce).toNat * 4)).block, (au.add ((Ce).toNat * 4)).off + 2, none⟩ = some (.int .i64 ((yg l0 Ce).f2.f0)) ∧ w'.cell? ⟨(au.add ((Ce).toNat * 4)).block, (au.add ((Ce).toNat * 4)).off + 3, none⟩ = some (.int .i64 ((yg l0 Ce).f2.f1))) (ds := []) (bz 16 0) (by kernel_rfl) rfl rfl ⟨(yA aa.out 0).trans rfl, (yA aa.out 1).trans rfl, (cB HB aQ), (cB HB aN), (cB HB aM), (cB HB aT)⟩ (fun hHeld => ?_); refine zF yB.Xr yB.Rw (fun yz Bi => ?_)
  generalize wr.drew = w19 at aa HB aD aG aI aH hHeld ⊢;refine pU 0 35 16 1 yz ?_;refine pU 1 36 16 3 yz ?_;refine pU 2 37 16 7 yz ?_;refine pU 3 38 16 15 yz ?_;refine pU 4 39 16 31 yz ?_;refine pU 5 40 16 63 yz ?_;refine pU 6 41 16 127 yz ?_;refine pU 7 42 16 255 yz ?_;refine pU 8 43 16 511 yz ?_
  refine BO 9 44 16 1023 yz Bi hHeld ?_
  refine BO 10 45 16 2047 yz Bi hHeld ?_
  refine Ck (i := 11) (N := some 46) (bz 16 4095) rfl rfl (Af yz.out (by kernel_rfl)) (by decide) (fun K hK => ?_)
  refine SK Try.func42 (by kernel_rfl) rfl #[.agg #[.int .i64 ((yg l0 Ce).f0), .int .i64 ((yg l0 Ce).f1), .int .i64 ((yg l0 Ce).f2.f0), .int .i64 ((yg l0 Ce).f2.f1)], .agg #[.int .i64 CK, .int .i64 CQ]] (by rfl) rfl rfl (by (try simp only [pm]); rfl) ?_
  with_reducible refine (BC.calls k1 ((yg l0 Ce).f0) ((yg l0 Ce).f1) ((yg l0 Ce).f2.f0) ((yg l0 Ce).f2.f1) CK CQ a2H _ A18.out).mono ?_
  rintro e w20 ⟨rfl, hb⟩
  refine ⟨_, rfl, ?_⟩
  replace aa := bB aa hb;replace HB := bS HB hb;clear hb
  refine hK.out _ _ ⟨(yA aa.out 0).trans rfl, (yA aa.out 1).trans rfl, (cB HB aQ), (cB HB aN), (cB HB aM), (cB HB aT)⟩ (fun hHeld => ?_)
  clear hK K
  refine AR (a' := ?_) ?_ ?_
  rotate_left
  ·
   show Act.put _ (some 46) _ = _
   simp only [pz]
   rfl
  refine pU 12 47 16 8191 yz ?_;refine pU 13 48 16 16383 yz ?_;refine pU 14 6 16 32767 yz ?_;refine pU 15 7 16 65535 yz ?_
  refine BG (Al yz.out (by kernel_rfl)) ?_
  try go_wp2
  go_ret2
  exact ⟨by rfl, bO HB⟩
 rw [if_pos c5] at H;have FE := decide_eq_true c5;clear c5;obtain ⟨Ei, Zk⟩ : ∃ j_ : Int, (wrap64 ((IntKind.u64.wrap (wrap64 (Ce + aj))) / 2)) = j_ := ⟨_, rfl⟩
 replace H : (if 0 ≤ (Ei) then (if (Ei) < (l0.length : Int) then ((BC.f k1 ((yg l0 (Ei)).f0) ((yg l0 (Ei)).f1) ((yg l0 (Ei)).f2.f0) ((yg l0 (Ei)).f2.f1) CK CQ).bind fun t167 => (if t167 < 0 then (yB.l0 k1 l0 (l0.length : Int) (wrap64 ((Ei) + 1)) aj CK CQ) else (yB.l0 k1 l0 (l0.length : Int) Ce Ei CK CQ))) else (none)) else (none)) = some (r1, r2) := by (rw [Zk] at H; exact H)
 have hji6w : (IntKind.i64.wrap ((IntKind.u64.wrap (wrap64 (Ce + aj))) / 2)) = Ei := (i64_w _).trans Zk
 by_cases c7 : 0 ≤ (Ei)
 rotate_left
 ·
  rw [if_neg c7] at H;exact absurd H (by simp)
 rw [if_pos c7] at H;have GN := decide_eq_true c7;clear c7
 by_cases c8 : (Ei) < (l0.length : Int)
 rotate_left
 ·
  rw [if_neg c8] at H;exact absurd H (by simp)
 rw [if_pos c8] at H;have GZ := decide_eq_true c8;clear c8;obtain ⟨t167, A9, H⟩ := bE H
 try dsimp only at H
 by_cases c10 : t167 < 0
 ·
  rw [if_pos c10] at H;have Gi := decide_eq_true c10;clear c10;have H' := yf.mk H;clear H
  try go_wp2
  replace aa := yf.mk (yO aa.out);replace HB := yf.mk (za HB.out)
  have av : 0 ≤ ((Ei) : Int) := of_decide_eq_true ‹_›
  have ax : (Ei) < (l0.length : Int) := of_decide_eq_true ‹_›
  obtain ⟨ae, e166, ah, ai, af, ag⟩ := BU Li.out (Ei) av ax;have az := ag;have ay := af;have aA := ai;have aC := ah;cases e166;replace ah := cB HB ah;replace ai := cB HB ai;replace af := cB HB af;replace ag := cB HB ag;replace av := eq_true av;replace ax := eq_true ax
  refine Bc (n := 8) (S := fun w' => w'.cell? ⟨ak, 0, none⟩ = some (.int .i64 CK) ∧ w'.cell? ⟨ak, 1, none⟩ = some (.int .i64 CQ) ∧ w'.cell? (ae.add (((Ei)).toNat * 4)) = some (.int .i64 ((yg l0 (Ei)).f0)) ∧ w'.cell? ⟨(ae.add (((Ei)).toNat * 4)).block, (ae.add (((Ei)).toNat * 4)).off + 1, none⟩ = some (.int .i64 ((yg l0 (Ei)).f1)) ∧ w'.cell? ⟨(ae.add (((Ei)).toNat * 4)).block, (ae.add (((Ei)).toNat * 4)).off + 2, none⟩ = some (.int .i64 ((yg l0 (Ei)).f2.f0)) ∧ w'.cell? ⟨(ae.add (((Ei)).toNat * 4)).block, (ae.add (((Ei)).toNat * 4)).off + 3, none⟩ = some (.int .i64 ((yg l0 (Ei)).f2.f1))) (ds := []) (bz 8 0) (by kernel_rfl) rfl rfl ⟨(yA aa.out 0).trans rfl, (yA aa.out 1).trans rfl, (cB HB aC), (cB HB aA), (cB HB ay), (cB HB az)⟩ (fun hHeld => ?_); refine zF yB.Zv yB.Uw (fun yz Bi => ?_)
  generalize wr.drew = w11 at aa HB ah ai af ag hHeld ⊢;refine pU 0 24 8 1 yz ?_;refine pU 1 25 8 3 yz ?_;refine pU 2 26 8 7 yz ?_;refine pU 3 27 8 15 yz ?_
  refine BO 4 28 8 31 yz Bi hHeld ?_
  refine BO 5 29 8 63 yz Bi hHeld ?_
  refine Ck (i := 6) (N := some 30) (bz 8 127) rfl rfl (Af yz.out (by kernel_rfl)) (by decide) (fun K hK => ?_)
  refine SK Try.func42 (by kernel_rfl) rfl #[.agg #[.int .i64 ((yg l0 (Ei)).f0), .int .i64 ((yg l0 (Ei)).f1), .int .i64 ((yg l0 (Ei)).f2.f0), .int .i64 ((yg l0 (Ei)).f2.f1)], .agg #[.int .i64 CK, .int .i64 CQ]] (by rfl) rfl rfl (by (try simp only [List.map_toArray, List.map_cons, List.map_nil]); rfl) ?_
  with_reducible refine (BC.calls k1 ((yg l0 (Ei)).f0) ((yg l0 (Ei)).f1) ((yg l0 (Ei)).f2.f0) ((yg l0 (Ei)).f2.f1) CK CQ t167 _ A9.out).mono ?_
  rintro e w12 ⟨rfl, hb⟩
  refine ⟨_, rfl, ?_⟩
  replace aa := bB aa hb;replace HB := bS HB hb;clear hb
  refine hK.out _ _ ⟨(yA aa.out 0).trans rfl, (yA aa.out 1).trans rfl, (cB HB aC), (cB HB aA), (cB HB ay), (cB HB az)⟩ (fun hHeld => ?_)
  clear hK K
  refine AR (a' := ?_) ?_ ?_
  rotate_left
  ·
   show Act.put _ (some 30) _ = _
   simp only [pz]
   rfl
  refine pU 7 31 8 255 yz ?_
  refine BG (Al yz.out (by kernel_rfl)) ?_
  try go_wp2
  go_roundg k1
  case measure => have := BJ.out; omega
  case rel => exact ⟨(wrap64 ((Ei) + 1)), (aj), (by rfl), (by rfl), H', ⟨by have := BJ.out; omega⟩, ⟨kk aa⟩, ⟨bO HB⟩⟩
 rw [if_neg c10] at H;have Gi := decide_eq_false c10;clear c10;have H' := yf.mk H;clear H
 try go_wp2
 replace aa := yf.mk (yO aa.out);replace HB := yf.mk (za HB.out)
 have av : 0 ≤ ((Ei) : Int) := of_decide_eq_true ‹_›
 have ax : (Ei) < (l0.length : Int) := of_decide_eq_true ‹_›
 obtain ⟨ae, e166, ah, ai, af, ag⟩ := BU Li.out (Ei) av ax;have az := ag;have ay := af;have aA := ai;have aC := ah;cases e166;replace ah := cB HB ah;replace ai := cB HB ai;replace af := cB HB af;replace ag := cB HB ag;replace av := eq_true av;replace ax := eq_true ax
 refine Bc (n := 8) (S := fun w' => w'.cell? ⟨ak, 0, none⟩ = some (.int .i64 CK) ∧ w'.cell? ⟨ak, 1, none⟩ = some (.int .i64 CQ) ∧ w'.cell? (ae.add (((Ei)).toNat * 4)) = some (.int .i64 ((yg l0 (Ei)).f0)) ∧ w'.cell? ⟨(ae.add (((Ei)).toNat * 4)).block, (ae.add (((Ei)).toNat * 4)).off + 1, none⟩ = some (.int .i64 ((yg l0 (Ei)).f1)) ∧ w'.cell? ⟨(ae.add (((Ei)).toNat * 4)).block, (ae.add (((Ei)).toNat * 4)).off + 2, none⟩ = some (.int .i64 ((yg l0 (Ei)).f2.f0)) ∧ w'.cell? ⟨(ae.add (((Ei)).toNat * 4)).block, (ae.add (((Ei)).toNat * 4)).off + 3, none⟩ = some (.int .i64 ((yg l0 (Ei)).f2.f1))) (ds := []) (bz 8 0) (by kernel_rfl) rfl rfl ⟨(yA aa.out 0).trans rfl, (yA aa.out 1).trans rfl, (cB HB aC), (cB HB aA), (cB HB ay), (cB HB az)⟩ (fun hHeld => ?_); refine zF yB.Zv yB.Uw (fun yz Bi => ?_)
 generalize wr.drew = w13 at aa HB ah ai af ag hHeld ⊢;refine pU 0 24 8 1 yz ?_;refine pU 1 25 8 3 yz ?_;refine pU 2 26 8 7 yz ?_;refine pU 3 27 8 15 yz ?_
 refine BO 4 28 8 31 yz Bi hHeld ?_
 refine BO 5 29 8 63 yz Bi hHeld ?_
 refine Ck (i := 6) (N := some 30) (bz 8 127) rfl rfl (Af yz.out (by kernel_rfl)) (by decide) (fun K hK => ?_)
 refine SK Try.func42 (by kernel_rfl) rfl #[.agg #[.int .i64 ((yg l0 (Ei)).f0), .int .i64 ((yg l0 (Ei)).f1), .int .i64 ((yg l0 (Ei)).f2.f0), .int .i64 ((yg l0 (Ei)).f2.f1)], .agg #[.int .i64 CK, .int .i64 CQ]] (by rfl) rfl rfl (by (try simp only [List.map_toArray, List.map_cons, List.map_nil]); rfl) ?_
 with_reducible refine (BC.calls k1 ((yg l0 (Ei)).f0) ((yg l0 (Ei)).f1) ((yg l0 (Ei)).f2.f0) ((yg l0 (Ei)).f2.f1) CK CQ t167 _ A9.out).mono ?_
 rintro e w14 ⟨rfl, hb⟩
 refine ⟨_, rfl, ?_⟩
 replace aa := bB aa hb;replace HB := bS HB hb;clear hb
 refine hK.out _ _ ⟨(yA aa.out 0).trans rfl, (yA aa.out 1).trans rfl, (cB HB aC), (cB HB aA), (cB HB ay), (cB HB az)⟩ (fun hHeld => ?_)
 clear hK K
 refine AR (a' := ?_) ?_ ?_
 rotate_left
 ·
  show Act.put _ (some 30) _ = _
  simp only [pz]
  rfl
 refine pU 7 31 8 255 yz ?_
 refine BG (Al yz.out (by kernel_rfl)) ?_
 try go_wp2
 go_roundg k1
 case measure => have := BJ.out; omega
 case rel => exact ⟨(Ce), (Ei), (by rfl), (by rfl), H', ⟨by have := BJ.out; omega⟩, ⟨kk aa⟩, ⟨bO HB⟩⟩
def D7.f (k : Nat) (yn : Int) (yh : List (List Int)) (yo : Int) (yu : Int) (AB : List (AX)) (BB : Int) (AY : Int) (a1 : Int) (a2 : Int) : Option (Int × Int) := (yB.f k AB a1 a2).bind fun Jp => (if Jp.2 = true then (if 0 ≤ Jp.1 then (if Jp.1 < (AB.length : Int) then (some ((yg AB Jp.1).f2.f0, (yg AB Jp.1).f2.f1)) else (none)) else (none)) else ((Cx.f k yn yh yo yu a1 a2).bind fun Rx => (some (Rx.1, Rx.2.1))))
set_option maxHeartbeats 8000000 in
set_option maxRecDepth 100000 in
theorem D7.calls (k : Nat) (yn : Int) (yQ : Option Addr) (yM : Nat) (yh : List (List Int)) (yo : Int) (yu : Int) (EA : Option Addr) (Eo : Nat) (AB : List (AX)) (BB : Int) (AY : Int) (a1 : Int) (a2 : Int) (r1 : Int) (r2 : Int) (w : World) (Ah : Kd.C (Kd.slice 3 (Kd.int .i64)) w yQ yh.length yh) (Ai : yh.length ≤ yM) (Gj : Kd.C CS w EA AB.length AB) (Gl : AB.length ≤ Eo) (h : D7.f k yn yh yo yu AB BB AY a1 a2 = some (r1, r2)) :
  Calls Try.prog 48 #[.agg #[.int .i64 yn, .slice yQ yh.length yM, .int .i64 yo, .int .i64 yu, .slice EA AB.length Eo, .int .i64 BB, .int .i64 AY], .int .i64 a1, .int .i64 a2] w fun e w' => e = .returned (.agg #[.int .i64 r1, .int .i64 r2]) ∧ Below w.heap.size w w' := by
 have NS := Try.underlying71;have Jd := Try.underlying38;have Xq := Try.underlying81;have FH := Try.underlying31;have zA := yf.mk Ah;have zK := yf.mk Ai;clear Ah Ai;have FB := yf.mk Gj;have Io := yf.mk Gl;clear Gj Gl;have HB := yf.mk (Below.refl w.heap.size w)
 have H : ((yB.f k AB a1 a2).bind fun Jp => (if Jp.2 = true then (if 0 ≤ Jp.1 then (if Jp.1 < (AB.length : Int) then (some ((yg AB Jp.1).f2.f0, (yg AB Jp.1).f2.f1)) else (none)) else (none)) else ((Cx.f k yn yh yo yu a1 a2).bind fun Rx => (some (Rx.1, Rx.2.1))))) = some (r1, r2) := h
 clear h;obtain ⟨⟨af, aU⟩, A4, H⟩ := bE H
 try dsimp only at H
 by_cases c5 : aU = true
 rotate_left
 ·
  replace c5 := Bool.eq_false_iff.mpr c5;subst c5
  rw [if_neg (show ¬ (false = true) by decide)] at H
  obtain ⟨⟨ay, aA, aV⟩, QP, H⟩ := bE H
  try dsimp only at H
  simp only [Option.some.injEq, Prod.mk.injEq] at H;obtain ⟨rfl, rfl⟩ := H
  go_enter Try.func48, Try.ntmps48
  go_wp2_with (first | ((with_reducible refine yI (N := 3) rfl ?_); refine yG rfl (N := 3) rfl (cs := #[.int .i64 yn, .slice yQ yh.length yM, .int .i64 yo, .int .i64 yu, .slice EA AB.length Eo, .int .i64 BB, .int .i64 AY]) (t := 71) (by go_simp) ?_; intro aJ hg w16 yJ hb; have aa := yf.mk (yJ); have aN := bG (w := w) hg; have aD := bG (w := w) hg; replace HB := bS HB hb; clear hb yJ hg) | ((with_reducible refine yI (N := 6) rfl ?_); refine yG rfl (N := 6) rfl (cs := #[.int .i64 0, .int .i64 0]) (t := 38) (by go_simp) ?_; intro ai hg w17 yJ hb; have ae := yf.mk (yJ); have aG := bG (w := w) hg; have aQ := bG (w := w) hg; have aj := Co aa hg; have ag := Ar aa hg; replace aa := bB aa hb; replace HB := bS HB hb; clear hb yJ hg; have Ux := aj.out; have Uy := ag.out; have Uz := Gt aa; have UA := bf aa) | ((with_reducible refine yw (f := 41) rfl ?_); refine gL (some 17) Try.func41 #[.slice EA AB.length Eo, .agg #[.int .i64 a1, .int .i64 a2], (.func (.func 42) #[] #[])] ?_; (with_reducible refine (yB.calls k _ _ AB a1 a2  af false _ ?yD ?yF A4.out).mono ?_); (case yD => exact Di FB); (case yF => exact Io.out); rintro e w20 ⟨rfl, hb⟩; refine ⟨_, rfl, ?_⟩; replace aa := bB aa hb; replace ae := bB ae hb; replace HB := bS HB hb; clear hb; have ND := Gt aa; have NE := bf aa) | ((with_reducible refine yw (f := 39) rfl ?_); refine gL (some 32) Try.func39 #[.agg #[.int .i64 yn, .slice yQ yh.length yM, .int .i64 yo, .int .i64 yu], .int .i64 a1, .int .i64 a2] ?_; (with_reducible refine (Cx.calls k yn _ _ yh yo yu a1 a2 ay aA aV _ ?yD ?yF QP.out).mono ?_); (case yD => exact Di zA); (case yF => exact zK.out); rintro e w22 ⟨rfl, hb⟩; refine ⟨_, rfl, ?_⟩; replace aa := bB aa hb; replace ae := bB ae hb; replace HB := bS HB hb; clear hb) | ((with_reducible refine yI (N := 9) rfl ?_); refine yG rfl (N := 9) rfl (cs := #[.int .i64 0, .int .i64 0]) (t := 38) (by go_simp) ?_; intro aW hg w23 yJ hb; have ax := yf.mk (yJ); have aY := bG (w := w) hg; have aX := bG (w := w) hg; have aK := Co aa hg; have aH := Ar aa hg; have aM := Co ae hg; have aI := Ar ae hg; replace aa := bB aa hb; replace ae := bB ae hb; replace HB := bS HB hb; clear hb yJ hg; have QQ := aH.out; have QR := aK.out; have WX := aI.out; have WY := aM.out; have Pq := bc2 ax; have Ps := bf ax; have Md := bc2 ae; have Me := bf ae))
  refine bodyPost_ret (results_cell_row rfl _ _ ai 38 #[.int .i64 ay, .int .i64 aA] (0, 0) _ rfl (CJ ae rfl) Try.underlying38 rfl (by kernel_rfl)) rfl ?_
  exact ⟨by rfl, bO HB⟩
 subst c5;rw [if_pos rfl] at H
 by_cases c6 : 0 ≤ af
 rotate_left
 ·
  rw [if_neg c6] at H;exact absurd H (by simp)
 rw [if_pos c6] at H;have EJ := decide_eq_true c6;clear c6
 by_cases c7 : af < (AB.length : Int)
 rotate_left
 ·
  rw [if_neg c7] at H;exact absurd H (by simp)
 rw [if_pos c7] at H;have GN := decide_eq_true c7;clear c7;simp only [Option.some.injEq, Prod.mk.injEq] at H;obtain ⟨rfl, rfl⟩ := H
 go_enter Try.func48, Try.ntmps48
 go_wp2_with (first | ((with_reducible refine yI (N := 3) rfl ?_); refine yG rfl (N := 3) rfl (cs := #[.int .i64 yn, .slice yQ yh.length yM, .int .i64 yo, .int .i64 yu, .slice EA AB.length Eo, .int .i64 BB, .int .i64 AY]) (t := 71) (by go_simp) ?_; intro aJ hg w8 yJ hb; have aa := yf.mk (yJ); have aN := bG (w := w) hg; have aD := bG (w := w) hg; replace HB := bS HB hb; clear hb yJ hg) | ((with_reducible refine yI (N := 6) rfl ?_); refine yG rfl (N := 6) rfl (cs := #[.int .i64 0, .int .i64 0]) (t := 38) (by go_simp) ?_; intro ai hg w9 yJ hb; have ae := yf.mk (yJ); have aG := bG (w := w) hg; have aQ := bG (w := w) hg; have aj := Co aa hg; have ag := Ar aa hg; replace aa := bB aa hb; replace HB := bS HB hb; clear hb yJ hg; have a0g := aj.out; have a0h := ag.out; have Ma := Gt aa; have Mc := bf aa) | ((with_reducible refine yw (f := 41) rfl ?_); refine gL (some 17) Try.func41 #[.slice EA AB.length Eo, .agg #[.int .i64 a1, .int .i64 a2], (.func (.func 42) #[] #[])] ?_; (with_reducible refine (yB.calls k _ _ AB a1 a2  af true _ ?yD ?yF A4.out).mono ?_); (case yD => exact Di FB); (case yF => exact Io.out); rintro e w12 ⟨rfl, hb⟩; refine ⟨_, rfl, ?_⟩; replace aa := bB aa hb; replace ae := bB ae hb; replace HB := bS HB hb; clear hb; have Np := Gt aa; have Nq := bf aa; have ak : 0 ≤ (af : Int) := of_decide_eq_true ‹_›; have ah : af < (AB.length : Int) := of_decide_eq_true ‹_›; obtain ⟨aZ, aT, aC, az, av, au⟩ := BU FB.out af ak ah; cases aT; replace aC := cB HB aC; replace az := cB HB az; replace av := cB HB av; replace au := cB HB au; replace ak := eq_true ak; replace ah := eq_true ah; have IV := bc2 ae; have IW := bf ae))
 refine bodyPost_ret (results_cell_row rfl _ _ ai 38 #[.int .i64 ((yg AB af).f2.f0), .int .i64 ((yg AB af).f2.f1)] (0, 0) _ rfl (CJ ae rfl) Try.underlying38 rfl (by kernel_rfl)) rfl ?_
 exact ⟨by rfl, bO HB⟩
end Go.Proofs.Ytjonnfmoocijlaa.P
