/- SpareApart: the law answers true and does not panic, for every number of a small layout, all bytes that describe moves and every group. No condition. -/
import Derived.Test.YtjonnfmoocijlaaGreatRows
import Derived.ProofKit
import Derived.OpenShut
import Derived.ShutString
import Derived.ChangeOld
import Derived.SizedLaws
import Derived.ChangeSame
import Derived.Deep.Strs
import Derived.ChangeSlices
import Derived.Test.YtjonnfmoocijlaaGreatE53
set_option linter.all false
namespace Go.Proofs.YtjonnfmoocijlaaGreat.spareApart
open Go.ChangeShapes Go.WideShapes Go.ChangeAt Go.RowKit Go.Proofs.YtjonnfmoocijlaaGreatKW.PrintWords Go.Proofs.YtjonnfmoocijlaaGreat.P
open Go.ChangeMaps (open_string shut_string)
theorem own : ownKnob Tryz.prog.godebug = none := by kernel_rfl
theorem laidOut : laidOutB Tryz.prog = true := by kernel_rfl
def IsRow (k : IntKind) (w : World) (a : Option Addr) (len cap : Nat) (zs : List Int) : Prop :=
 (a = none ∧ len = 0 ∧ cap = 0 ∧ zs = []) ∨
 ∃ x,a = some x ∧ len ≤ cap ∧ cap ≤ maxLen ∧ zs.length = cap ∧ (∀ i,i < zs.length → w.cell? (x.add i) = some (.int k (zs.getD i 0))) ∧ ∀ n ∈ zs,(Lit.int k n).wf = true
theorem two' {α : Type} : ∀ (l : List α),l.length = 2 → ∃ a b,l = [a,b]
 | [a,b],_ => ⟨a,b,rfl⟩
theorem K5 {a : Int} (h : (Lit.int .u16 a).wf = true) : 0 ≤ a ∧ a < 65536 := by
 have e1 : IntKind.u16.min = 0 := by decide
 have e2 : IntKind.u16.max = 65535 := by decide
 simp [Lit.wf] at h
 omega
theorem Yd {a : Int} (h : (Lit.int .u8 a).wf = true) : 0 ≤ a ∧ a < 256 := by
 have e1 : IntKind.u8.min = 0 := by decide
 have e2 : IntKind.u8.max = 255 := by decide
 simp [Lit.wf] at h
 omega
theorem walk (a0 : Int) (a1 : Option Addr) (NK Nl : Nat) (z1 : List Int) (a2 : Int) (w : World) (w0 : (Lit.int .u16 a0).wf = true) (w1 : IsRow .u8 w a1 NK Nl z1) (w2 : (Lit.int .u16 a2).wf = true) :
    Calls Tryz.prog 4 #[.int .u16 a0,.slice a1 NK Nl,.int .u16 a2] w fun e w' => e = .returned (.bool true) ∧ Below w.heap.size w w' := by
  obtain ⟨l1,rfl,hr1,hm1,hw1,hc1⟩ := EX.XD w1
  obtain ⟨k,h⟩ := (Oj a0 l1 a2 (K5 w0).1 (K5 w0).2 (fun b hb => Yd (hw1 b hb)) (K5 w2).1 (K5 w2).2).rounds
  exact yR.calls k a0 _ _ l1 a2 true w (Kd.MO (d := (0 : Int)) (h1 := fun _ => rfl) hr1) hc1 h
set_option maxHeartbeats 2000000 in
set_option maxRecDepth 100000 in
theorem lifted (os : Os) (started : os.Started) (H : Type) (enc : TypeId × Value → H) :
    ReturnsInHanded {} Tryz.checked os 4 .any (Rows.spareApartSpec.pre6 enc Tryz.prog Tryz.f4 Rows.spareApartRow.domain false) (Rows.spareApartSpec.post enc Tryz.prog Tryz.f4 false true false false) := by
  refine returnsInHanded_of_change_sized (C := Tryz.checked) own started (by kernel_rfl) Tryz.func4
    (ChangeSpec.witness6 (enc := enc) (C := Tryz.checked) false ⟨#[],#[.int .u16 0,.slice none 0 0,.int .u16 0],[]⟩ 8 (by kernel_rfl) (by kernel_rfl) (by kernel_rfl) (by kernel_rfl)) ?_
  intro W base args ds gs before hval0 hW hcnd hsz0 _
  have hval : ∀ (j : Nat) t v,Tryz.f4.params[j]? = some t → args[j]? = some v → Value.okWide Tryz.prog W .any base t v := hval0
  have hW' := hW
  obtain ⟨p,q,hA0,hV,rfl,hfz,hnd⟩ := hW
  have hA : DataW.TrodAll enc Tryz.prog W 0 (fun _ => true) true Tryz.f4.params.toList args.toList ds p := hA0
  rw [Tryz.params4] at hA hval
  obtain ⟨v0,vs0,d0,ds0,p0,q0,hargs,rfl,rfl,h0,r0⟩ := trodAll_cons hA
  obtain ⟨v1,vs1,d1,ds1,p1,q1,rfl,rfl,rfl,h1,r1⟩ := trodAll_cons r0
  obtain ⟨v2,vs2,d2,ds2,p2,q2,rfl,rfl,rfl,h2,r2⟩ := trodAll_cons r1
  obtain ⟨rfl,rfl,rfl⟩ := trodAll_nil r2
  obtain rfl : args = #[v0,v1,v2] := by cases args;simp_all
  obtain ⟨rfl,rfl⟩ := trodVars_none hV
  obtain ⟨a0,rfl,rfl,rfl,w0⟩ := open_int Tryz.underlying22 (hval 0 22 v0 rfl rfl) h0
  obtain ⟨a1,NK,Nl,rfl⟩ := okWide_slice Tryz.underlying23 (hval 1 23 v1 rfl rfl)
  have k1 := h1
  have lt1 : ∀ x ∈ p1,x.block < W.heap.size := by obtain ⟨m,hm⟩ := k1;exact DataW.trod_lt m _ _ _ hm
  obtain ⟨z1,w1⟩ : ∃ zs,IsRow .u8 W a1 NK Nl zs := by
    obtain ⟨fuel,hf⟩ := h1
    rcases open_ints Tryz.underlying23 Tryz.underlying5 (by kernel_rfl) hf with ⟨hcs,_⟩ | ⟨x,l,c,zs,hcs,_,hl,hm,hz,_,hcell,hwz⟩
    · simp [Value.cells] at hcs
      obtain ⟨rfl,rfl,rfl⟩ := hcs
      exact ⟨[],.inl ⟨rfl,rfl,rfl,rfl⟩⟩
    · simp [Value.cells] at hcs
      obtain ⟨rfl,rfl,rfl⟩ := hcs
      exact ⟨zs,.inr ⟨_,rfl,hl,hm,by simpa using hz,hcell,hwz⟩⟩
  obtain ⟨a2,rfl,rfl,rfl,w2⟩ := open_int Tryz.underlying22 (hval 2 22 v2 rfl rfl) h2
  clear hA0 hval0 hsz0
  refine (walk a0 a1 NK Nl z1 a2 W w0 w1 w2).mono fun e W' ⟨he,bel⟩ => ?_
  subst he
  exact ⟨_,rfl,_,_,_,[],_,[],hW',trodAll_mk1 (shut_bool Tryz.underlying4 _),(trodAll_cons_mk (shut_int Tryz.underlying22 w0) (trodAll_cons_mk (Below.trod laidOut (by kernel_rfl) (of_decide_eq_true (by kernel_rfl)) k1 bel lt1) (trodAll_cons_mk (shut_int Tryz.underlying22 w2) trodAll_mk0))),rfl,bel.frame _,fun h => by cases h⟩
theorem over : Rows.spareApartRow.holds Tryz.pinned (OpenSpec.ofChange Rows.spareApartSpec) :=
 OpenClaim.holds_of_wide 4 Tryz.f4 rfl rfl rfl rfl rfl rfl rfl ⟨rfl,rfl,rfl,rfl,rfl⟩ rfl rfl rfl rfl rfl (by kernel_rfl) Tryz.func4 (by kernel_rfl)
  (of_decide_eq_true (by kernel_rfl)) (by unfold Func.isWrapper;first | (rw [if_pos (by decide +kernel)];kernel_rfl) | (rw [if_neg (by decide +kernel)];exact ⟨rfl,rfl⟩))
  (fun os started H enc _ => lifted os started H enc)
theorem proved : Rows.SpareApartSaid := over
#print axioms proved
end Go.Proofs.YtjonnfmoocijlaaGreat.spareApart
namespace Go.Proofs.YtjonnfmoocijlaaGreat
theorem spareApart_holds : Rows.SpareApartSaid := spareApart.proved
end Go.Proofs.YtjonnfmoocijlaaGreat
