/- SpareValid: the law answers true and does not panic, for every number of a small layout and all moves. No condition. -/
import Derived.Test.YtjonnfmoocijlaaRows
import Derived.ProofKit
import Derived.OpenShut
import Derived.ShutString
import Derived.ChangeOld
import Derived.SizedLaws
import Derived.ChangeSame
import Derived.Deep.Strs
import Derived.ChangeSlices
import Derived.Test.YtjonnfmoocijlaaD44
set_option linter.all false
namespace Go.Proofs.Ytjonnfmoocijlaa.spareValid
open Go.ChangeShapes Go.WideShapes Go.ChangeAt Go.RowKit Go.Proofs.YtjonnfmoocijlaaKW.PrintWords Go.Proofs.Ytjonnfmoocijlaa.P
open Go.ChangeMaps (open_string shut_string)
theorem own : ownKnob Try.prog.godebug = none := by kernel_rfl
theorem laidOut : laidOutB Try.prog = true := by kernel_rfl
def IsRow (k : IntKind) (w : World) (a : Option Addr) (len cap : Nat) (zs : List Int) : Prop :=
 (a = none ∧ len = 0 ∧ cap = 0 ∧ zs = []) ∨
 ∃ x, a = some x ∧ len ≤ cap ∧ cap ≤ maxLen ∧ zs.length = cap ∧ (∀ i, i < zs.length → w.cell? (x.add i) = some (.int k (zs.getD i 0))) ∧ ∀ n ∈ zs, (Lit.int k n).wf = true
theorem Wi : Try.prog.cellsOf 47 = 4 := by kernel_rfl
theorem a0j : Try.prog.cellsOf 3 = 1 := by kernel_rfl
theorem a3z : Try.prog.cellsOf 22 = 1 := by kernel_rfl
theorem a0k : Try.prog.cellsOf 38 = 2 := by kernel_rfl
theorem parts : ∀ (l : List Value), l.length = 4 → ∃ a b c d, l = [a, b, c, d]
 | [a, b, c, d], _ => ⟨a, b, c, d, rfl⟩
theorem two' {α : Type} : ∀ (l : List α), l.length = 2 → ∃ a b, l = [a, b]
 | [a, b], _ => ⟨a, b, rfl⟩
theorem Wj {a : Int} (h : (Lit.int .u16 a).wf = true) : 0 ≤ a ∧ a < 65536 := by
 have e1 : IntKind.u16.min = 0 := by decide
 have e2 : IntKind.u16.max = 65535 := by decide
 simp [Lit.wf] at h
 omega
theorem a3L {a : Int} (h : (Lit.int .u8 a).wf = true) : 0 ≤ a ∧ a < 256 := by
 have e1 : IntKind.u8.min = 0 := by decide
 have e2 : IntKind.u8.max = 255 := by decide
 simp [Lit.wf] at h
 omega
theorem QX {H : Type} {enc : TypeId × Value → H} {W : World} {sp : Nat → Bool} {f : Nat} {cs : List Value} {x : DataW H × List MemPlace} (hf : DataW.trod enc Try.prog W 0 sp true f 47 cs = some x) (hl : cs.length = 4) : ∃ m : Mv, cs = [.int .i64 m.f0, .int .i64 m.f1, .int .i64 m.f2.f0, .int .i64 m.f2.f1] := by
 obtain ⟨c0, c1, c2, c3, rfl⟩ := parts cs hl
 obtain ⟨y0, y1, y2, m, hx, _, hy0, hy1, hyp⟩ := Go.Deep.trod_struct3 Try.underlying47 hf
 obtain ⟨y2, y3, m2, hx2, _, hy2, hy3⟩ := trod_struct2 Try.underlying38 hyp
 obtain ⟨g0, e0, _, _⟩ := DataW.trod_int Try.underlying3 hy0
 obtain ⟨g1, e1, _, _⟩ := DataW.trod_int Try.underlying3 hy1
 obtain ⟨g2, e2, _, _⟩ := DataW.trod_int Try.underlying3 hy2
 obtain ⟨g3, e3, _, _⟩ := DataW.trod_int Try.underlying3 hy3
 simp [Wi, a0j, a0k] at e0 e1 e2 e3
 subst e0 e1 e2 e3
 exact ⟨⟨g0, g1, ⟨g2, g3⟩⟩, rfl⟩
theorem QY {H : Type} {enc : TypeId × Value → H} {W : World} {A : Option Addr} {len cap : Nat} {d : DataW H} {p : List MemPlace} (h : DataW.Trod enc Try.prog W 0 (fun _ => true) true 33 (.slice A len cap) d p) : ∃ l : List Mv, l.length = len ∧ len ≤ cap ∧ Kd.C Dy W A len l := by
  obtain ⟨fuel, hf⟩ := h
  rcases Go.Deep.open_slice Try.underlying33 hf with ⟨hcs, _⟩ | ⟨a, len', cap', m, n, D, Pl, hcs, _, hl, hm, hmm, _, hx⟩
  · simp [Value.cells] at hcs
    obtain ⟨rfl, rfl, rfl⟩ := hcs
    exact ⟨[], rfl, Nat.le_refl _, rfl, Nat.zero_le _, fun h => absurd h (Nat.lt_irrefl 0)⟩
  · simp [Value.cells] at hcs
    obtain ⟨rfl, rfl, rfl⟩ := hcs
    have hlm : len ≤ m := by rw [hmm]; simp; exact hl
    have ae : cap ≤ 9223372036854775807 := hm
    rw [Wi] at hx
    have hex : ∀ i, i < len → ∃ v : Mv, ∀ j u, [Value.int .i64 v.f0, .int .i64 v.f1, .int .i64 v.f2.f0, .int .i64 v.f2.f1][j]? = some u → W.cell? (a.add (i * 4 + j)) = some u := by
      intro i hi
      obtain ⟨cs', h1, h2⟩ := hx i (by omega)
      obtain ⟨_, h3, h4⟩ := World.cells?_some h1
      obtain ⟨v, rfl⟩ := QX h2 h3
      refine ⟨v, fun j u hj => ?_⟩
      have aa : j < 4 := by have := (List.getElem?_eq_some_iff.1 hj).1; simpa using this
      have h5 := h4 j aa
      rw [Addr.add_add] at h5
      rw [h5, hj]
    refine ⟨(List.range len).map fun i => if h : i < len then Classical.choose (hex i h) else ⟨0, 0, ⟨0, 0⟩⟩, by simp, hl, by simp, by omega, fun _ => ⟨a, rfl, fun j p hj => ?_⟩⟩
    have hjl : j < len := by have := (List.getElem?_eq_some_iff.1 hj).1; simpa using this
    have hp : Classical.choose (hex j hjl) = p := by
      have := (List.getElem?_eq_some_iff.1 hj).2
      simpa [hjl] using this
    exact ⟨_, rfl, Zf W p, fun i u hu => (hp ▸ Classical.choose_spec (hex j hjl)) i u hu⟩
theorem walk (a0 : Int) (a1 : Option Addr) (Xf : Nat) (l1 : List Mv) (w : World) (w0 : (Lit.int .u16 a0).wf = true) (w1 : Kd.C Dy w a1 l1.length l1) (hc1 : l1.length ≤ Xf) :
    Calls Try.prog 8 #[.int .u16 a0, .slice a1 l1.length Xf] w fun e w' => e = .returned (.bool true) ∧ Below w.heap.size w w' := by
  obtain ⟨k, h⟩ := (MH a0 l1 (Wj w0).1 (Wj w0).2).rounds
  exact yO.calls k a0 _ _ l1 true w w1 hc1 h
set_option maxHeartbeats 2000000 in
set_option maxRecDepth 100000 in
theorem lifted (os : Os) (started : os.Started) (H : Type) (enc : TypeId × Value → H) :
    ReturnsInHanded {} Try.checked os 8 .any (Rows.spareValidSpec.pre6 enc Try.prog Try.f8 Rows.spareValidRow.domain false) (Rows.spareValidSpec.post enc Try.prog Try.f8 false true false false) := by
  refine returnsInHanded_of_change_sized (C := Try.checked) own started (by kernel_rfl) Try.func8
    (ChangeSpec.witness6 (enc := enc) (C := Try.checked) false ⟨#[], #[.int .u16 0, .slice none 0 0], []⟩ 8 (by kernel_rfl) (by kernel_rfl) (by kernel_rfl) (by kernel_rfl)) ?_
  intro W base args ds gs before hval0 hW hcnd hsz0 _
  have hval : ∀ (j : Nat) t v, Try.f8.params[j]? = some t → args[j]? = some v → Value.okWide Try.prog W .any base t v := hval0
  have hW' := hW
  obtain ⟨p, q, hA0, hV, rfl, hfz, hnd⟩ := hW
  have hA : DataW.TrodAll enc Try.prog W 0 (fun _ => true) true Try.f8.params.toList args.toList ds p := hA0
  rw [Try.params8] at hA hval
  obtain ⟨v0, ae, d0, ds0, p0, q0, hargs, rfl, rfl, h0, r0⟩ := trodAll_cons hA
  obtain ⟨v1, vs1, d1, ds1, p1, q1, rfl, rfl, rfl, h1, r1⟩ := trodAll_cons r0
  obtain ⟨rfl, rfl, rfl⟩ := trodAll_nil r1
  obtain rfl : args = #[v0, v1] := by cases args; simp_all
  obtain ⟨rfl, rfl⟩ := trodVars_none hV
  obtain ⟨a0, rfl, rfl, rfl, w0⟩ := open_int Try.underlying22 (hval 0 22 v0 rfl rfl) h0
  obtain ⟨a1, af, Xf, rfl⟩ := okWide_slice Try.underlying33 (hval 1 33 v1 rfl rfl)
  have k1 := h1
  have aa : ∀ x ∈ p1, x.block < W.heap.size := by obtain ⟨m, hm⟩ := k1; exact DataW.trod_lt m _ _ _ hm
  obtain ⟨l1, rfl, hc1, w1⟩ := QY h1
  clear hA0 hval0 hsz0
  refine (walk a0 a1 Xf l1 W w0 w1 hc1).mono fun e W' ⟨he, bel⟩ => ?_
  subst he
  exact ⟨_, rfl, _, _, _, [], _, [], hW', trodAll_mk1 (shut_bool Try.underlying4 _), (trodAll_cons_mk (shut_int Try.underlying22 w0) (trodAll_cons_mk (Below.trod laidOut (by kernel_rfl) (of_decide_eq_true (by kernel_rfl)) k1 bel aa) trodAll_mk0)), rfl, bel.frame _, fun h => by cases h⟩
theorem over : Rows.spareValidRow.holds Try.pinned (OpenSpec.ofChange Rows.spareValidSpec) :=
 OpenClaim.holds_of_wide 8 Try.f8 rfl rfl rfl rfl rfl rfl rfl ⟨rfl, rfl, rfl, rfl, rfl⟩ rfl rfl rfl rfl rfl (by kernel_rfl) Try.func8 (by kernel_rfl)
  (of_decide_eq_true (by kernel_rfl)) (by unfold Func.isWrapper; first | (rw [if_pos (by decide +kernel)]; kernel_rfl) | (rw [if_neg (by decide +kernel)]; exact ⟨rfl, rfl⟩))
  (fun os started H enc _ => lifted os started H enc)
theorem proved : Rows.SpareValidSaid := over
#print axioms proved
end Go.Proofs.Ytjonnfmoocijlaa.spareValid
namespace Go.Proofs.Ytjonnfmoocijlaa
theorem spareValid_holds : Rows.SpareValidSaid := spareValid.proved
end Go.Proofs.Ytjonnfmoocijlaa
