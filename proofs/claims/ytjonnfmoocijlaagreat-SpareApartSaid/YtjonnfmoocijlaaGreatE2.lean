/- Texts of a claim, packed. -/
import Derived.Test.YtjonnfmoocijlaaGreatE1
set_option linter.all false
namespace Go.Proofs.YtjonnfmoocijlaaGreat.P
open Go.RowKit Go.Proofs.YtjonnfmoocijlaaGreatKW.PrintWords
section
variable {α β : Type} {c : Prop} [Decidable c] {f g : Nat → Option α} {r : α}
theorem AA (h : c) (k : Ev f r) : Ev (fun n => if c then f n else g n) r := Ev.congr (fun _ => if_pos h) k
theorem BF (h : ¬ c) (k : Ev g r) : Ev (fun n => if c then f n else g n) r := Ev.congr (fun _ => if_neg h) k
theorem evs {F : Nat → Option α} (h : ∀ k,F (k + 1) = f k) (k : Ev f r) : Ev F r := Ev.step h k
theorem Hw {x : α} (h : x = r) : Ev (fun _ => some x) r := h ▸ Ev.now x
theorem a6b {x : Option α} (h : x = some r) : Ev (fun _ => x) r := h ▸ Ev.now r
theorem Ep {g : Nat → Option β} {f : Nat → β → Option α} {a : β} (h : Ev g a) (k : Ev (fun n => f n a) r) : Ev (fun n => (g n).bind (f n)) r := Ev.bind h k
theorem GZ {g : Option β} {f : Nat → β → Option α} {a : β} (h : g = some a) (k : Ev (fun n => f n a) r) : Ev (fun n => g.bind (f n)) r := Ev.congr (fun _ => by rw [h];rfl) k
theorem Qt {F : Nat → Option α} {k : Nat} (hm : ∀ k,Bh (F k) (F (k + 1))) (h : F k = some r) : Ev F r := Ev.of hm h
end
theorem w1 {i : Int} {n : Nat} (h0 : 0 ≤ i) (h : i < (n : Int)) (hn : n < 9223372036854775807) : wrap64 (i + 1) = i + 1 := by unfold wrap64;omega
theorem ww {x : Int} (h0 : -9223372036854775808 ≤ x) (h : x ≤ 9223372036854775807) : wrap64 x = x := by unfold wrap64;omega
theorem vi {i n : Nat} (h : i < n) (hn : n ≤ 9223372036854775807) : Value.int .i64 (wrap64 ((i : Int) + 1)) = Value.int .i64 ((i + 1 : Nat) : Int) := by
 rw [ww (by omega) (by omega)];push_cast;rfl
theorem getD_at {α : Type} (l : List α) (d : α) (i : Nat) (h : i < l.length) : l.getD i d = l[i] := by simp [List.getD_eq_getElem?_getD,List.getElem?_eq_getElem h]
theorem IJ (l : List Int) (i : Nat) (h : i < l.length) : rd l (i : Int) = l[i] := by unfold rd;rw [Int.toNat_natCast,getD_at _ _ _ h]
end Go.Proofs.YtjonnfmoocijlaaGreat.P
