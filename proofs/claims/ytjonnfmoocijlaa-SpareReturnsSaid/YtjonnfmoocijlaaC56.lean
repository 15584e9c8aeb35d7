/- SpareReturns: the law answers true and does not panic, for every number of a small layout, all bytes that describe moves and every further move. No condition. -/
import Derived.Test.YtjonnfmoocijlaaRows
import Derived.ProofKit
import Derived.OpenShut
import Derived.ShutString
import Derived.ChangeOld
import Derived.SizedLaws
import Derived.ChangeSame
import Derived.Deep.Strs
import Derived.ChangeSlices
import Derived.Test.YtjonnfmoocijlaaC55
set_option linter.all false
namespace Go.Proofs.Ytjonnfmoocijlaa.spareReturns
open Go.ChangeShapes Go.WideShapes Go.ChangeAt Go.RowKit Go.Proofs.YtjonnfmoocijlaaKW.PrintWords Go.Proofs.Ytjonnfmoocijlaa.P
open Go.ChangeMaps (open_string shut_string)
theorem own : ownKnob Try.prog.godebug = none := by kernel_rfl
theorem laidOut : laidOutB Try.prog = true := by kernel_rfl
def IsRow (k : IntKind) (w : World) (a : Option Addr) (len cap : Nat) (zs : List Int) : Prop :=
 (a = none ∧ len = 0 ∧ cap = 0 ∧ zs = []) ∨
 ∃ x, a = some x ∧ len ≤ cap ∧ cap ≤ maxLen ∧ zs.length = cap ∧ (∀ i, i < zs.length → w.cell? (x.add i) = some (.int k (zs.getD i 0))) ∧ ∀ n ∈ zs, (Lit.int k n).wf = true
theorem H8 : Try.prog.cellsOf 47 = 4 := by kernel_rfl
theorem Ki : Try.prog.cellsOf 3 = 1 := by kernel_rfl
theorem Kj : Try.prog.cellsOf 22 = 1 := by kernel_rfl
theorem Kk : Try.prog.cellsOf 38 = 2 := by kernel_rfl
theorem parts : ∀ (l : List Value), l.length = 4 → ∃ a b c d, l = [a, b, c, d]
 | [a, b, c, d], _ => ⟨a, b, c, d, rfl⟩
theorem two' {α : Type} : ∀ (l : List α), l.length = 2 → ∃ a b, l = [a, b]
 | [a, b], _ => ⟨a, b, rfl⟩
theorem FW {a : Int} (h : (Lit.int .u16 a).wf = true) : 0 ≤ a ∧ a < 65536 := by
 have e1 : IntKind.u16.min = 0 := by decide
 have e2 : IntKind.u16.max = 65535 := by decide
 simp [Lit.wf] at h
 omega
theorem Le {a : Int} (h : (Lit.int .u8 a).wf = true) : 0 ≤ a ∧ a < 256 := by
 have e1 : IntKind.u8.min = 0 := by decide
 have e2 : IntKind.u8.max = 255 := by decide
 simp [Lit.wf] at h
 omega
theorem walk (a0 : Int) (a1 : Option Addr) (FX FY : Nat) (z1 : List Int) (g0 g1 g2 g3 : Int) (w : World) (w0 : (Lit.int .u16 a0).wf = true) (w1 : IsRow .u8 w a1 FX FY z1) :
    Calls Try.prog 7 #[.int .u16 a0, .slice a1 FX FY, .agg #[.int .i64 g0, .int .i64 g1, .int .i64 g2, .int .i64 g3]] w fun e w' => e = .returned (.bool true) ∧ Below w.heap.size w w' := by
  obtain ⟨l1, rfl, hr1, hm1, hw1, hc1⟩ := Ew.MU w1
  obtain ⟨k, h⟩ := (MK a0 l1 g0 g1 g2 g3 (FW w0).1 (FW w0).2 (fun b hb => Le (hw1 b hb))).rounds
  exact yt.calls k a0 _ _ l1 g0 g1 g2 g3 true w (Kd.GX (d := (0 : Int)) (h1 := fun _ => rfl) hr1) hc1 h
set_option maxHeartbeats 2000000 in
set_option maxRecDepth 100000 in
theorem lifted (os : Os) (started : os.Started) (H : Type) (enc : TypeId × Value → H) :
    ReturnsInHanded {} Try.checked os 7 .any (Rows.spareReturnsSpec.pre6 enc Try.prog Try.f7 Rows.spareReturnsRow.domain false) (Rows.spareReturnsSpec.post enc Try.prog Try.f7 false true false false) := by
  refine returnsInHanded_of_change_sized (C := Try.checked) own started (by kernel_rfl) Try.func7
    (ChangeSpec.witness6 (enc := enc) (C := Try.checked) false ⟨#[], #[.int .u16 0, .slice none 0 0, .agg #[.int .i64 0, .int .i64 0, .int .i64 0, .int .i64 0]], []⟩ 8 (by kernel_rfl) (by kernel_rfl) (by kernel_rfl) (by kernel_rfl)) ?_
  intro W base args ds gs before hval0 hW hcnd hsz0 _
  have hval : ∀ (j : Nat) t v, Try.f7.params[j]? = some t → args[j]? = some v → Value.okWide Try.prog W .any base t v := hval0
  have hW' := hW
  obtain ⟨p, q, hA0, hV, rfl, hfz, hnd⟩ := hW
  have hA : DataW.TrodAll enc Try.prog W 0 (fun _ => true) true Try.f7.params.toList args.toList ds p := hA0
  rw [Try.params7] at hA hval
  obtain ⟨v0, vs0, d0, ds0, p0, q0, hargs, rfl, rfl, h0, r0⟩ := trodAll_cons hA
  obtain ⟨v1, vs1, d1, ds1, p1, q1, rfl, rfl, rfl, h1, r1⟩ := trodAll_cons r0
  obtain ⟨v2, vs2, d2, ds2, p2, q2, rfl, rfl, rfl, h2, r2⟩ := trodAll_cons r1
  obtain ⟨rfl, rfl, rfl⟩ := trodAll_nil r2
  obtain rfl : args = #[v0, v1, v2] := by cases args; simp_all
  obtain ⟨rfl, rfl⟩ := trodVars_none hV
  obtain ⟨a0, rfl, rfl, rfl, w0⟩ := open_int Try.underlying22 (hval 0 22 v0 rfl rfl) h0
  obtain ⟨a1, FX, FY, rfl⟩ := okWide_slice Try.underlying23 (hval 1 23 v1 rfl rfl)
  have k1 := h1
  have ZM : ∀ x ∈ p1, x.block < W.heap.size := by obtain ⟨m, hm⟩ := k1; exact DataW.trod_lt m _ _ _ hm
  obtain ⟨z1, w1⟩ : ∃ zs, IsRow .u8 W a1 FX FY zs := by
    obtain ⟨fuel, hf⟩ := h1
    rcases open_ints Try.underlying23 Try.underlying5 (by kernel_rfl) hf with ⟨hcs, _⟩ | ⟨x, l, c, zs, hcs, _, hl, hm, hz, _, hcell, hwz⟩
    · simp [Value.cells] at hcs
      obtain ⟨rfl, rfl, rfl⟩ := hcs
      exact ⟨[], .inl ⟨rfl, rfl, rfl, rfl⟩⟩
    · simp [Value.cells] at hcs
      obtain ⟨rfl, rfl, rfl⟩ := hcs
      exact ⟨zs, .inr ⟨_, rfl, hl, hm, by simpa using hz, hcell, hwz⟩⟩
  have k2 := h2
  have lt2 : ∀ x ∈ p2, x.block < W.heap.size := by obtain ⟨m, hm⟩ := k2; exact DataW.trod_lt m _ _ _ hm
  obtain ⟨cs, rfl, hcz⟩ : ∃ cs, v2 = .agg cs ∧ cs.size = Try.prog.cellsOf 47 := by
    have := hval 2 47 v2 rfl rfl
    simp only [Value.okWide, Try.underlying47] at this
    obtain ⟨cs, h1, h2, _⟩ := this
    exact ⟨cs, h1, h2⟩
  rw [H8] at hcz
  obtain ⟨l⟩ := cs
  obtain ⟨c0, c1, c2, c3, rfl⟩ := parts l (by simpa using hcz)
  obtain ⟨fuel, hf⟩ := h2
  obtain ⟨y0, y1, y2, m, hx, _, hy0, hy1, hyp⟩ := Go.Deep.trod_struct3 Try.underlying47 hf
  obtain ⟨y2, y3, m2, hx2, _, hy2, hy3⟩ := trod_struct2 Try.underlying38 hyp
  obtain ⟨g0, e0, _, _⟩ := DataW.trod_int Try.underlying3 hy0
  obtain ⟨g1, e1, _, _⟩ := DataW.trod_int Try.underlying3 hy1
  obtain ⟨g2, e2, _, _⟩ := DataW.trod_int Try.underlying3 hy2
  obtain ⟨g3, e3, _, _⟩ := DataW.trod_int Try.underlying3 hy3
  simp [Value.cells, H8, Ki, Kj, Kk] at e0 e1 e2 e3
  subst e0 e1 e2 e3
  clear hA0 hval0 hsz0
  refine (walk a0 a1 FX FY z1 g0 g1 g2 g3 W w0 w1).mono fun e W' ⟨he, bel⟩ => ?_
  subst he
  exact ⟨_, rfl, _, _, _, [], _, [], hW', trodAll_mk1 (shut_bool Try.underlying4 _), (trodAll_cons_mk (shut_int Try.underlying22 w0) (trodAll_cons_mk (Below.trod laidOut (by kernel_rfl) (of_decide_eq_true (by kernel_rfl)) k1 bel ZM) (trodAll_cons_mk (Below.trod laidOut (by kernel_rfl) (of_decide_eq_true (by kernel_rfl)) k2 bel lt2) trodAll_mk0))), rfl, bel.frame _, fun h => by cases h⟩
theorem over : Rows.spareReturnsRow.holds Try.pinned (OpenSpec.ofChange Rows.spareReturnsSpec) :=
 OpenClaim.holds_of_wide 7 Try.f7 rfl rfl rfl rfl rfl rfl rfl ⟨rfl, rfl, rfl, rfl, rfl⟩ rfl rfl rfl rfl rfl (by kernel_rfl) Try.func7 (by kernel_rfl)
  (of_decide_eq_true (by kernel_rfl)) (by unfold Func.isWrapper; first | (rw [if_pos (by decide +kernel)]; kernel_rfl) | (rw [if_neg (by decide +kernel)]; exact ⟨rfl, rfl⟩))
  (fun os started H enc _ => lifted os started H enc)
theorem proved : Rows.SpareReturnsSaid := over
#print axioms proved
end Go.Proofs.Ytjonnfmoocijlaa.spareReturns
namespace Go.Proofs.Ytjonnfmoocijlaa
theorem spareReturns_holds : Rows.SpareReturnsSaid := spareReturns.proved
end Go.Proofs.Ytjonnfmoocijlaa
