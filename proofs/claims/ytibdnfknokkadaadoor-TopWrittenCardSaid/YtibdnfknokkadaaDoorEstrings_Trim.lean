/- strings.Trim at a cutset of one nought, on plain data: the shelf's contract, told as the evaluator wants it. -/
import Derived.Test.YtibdnfknokkadaaDoorEtab
import Derived.Test.YtibdnfknokkadaaDoorShelfT
set_option linter.unusedVariables false
set_option maxRecDepth 1000000
namespace Go.Proofs.YtibdnfknokkadaaDoor.Ev
open Go Go.RowKit Go.Proofs
def strings_Trim (k : Nat) (s : ByteArray) (cutset : ByteArray) : Option ByteArray :=
  bif decide (cutset = (⟨#[0]⟩ : ByteArray)) then (bif decide (s.size ≤ 9223372036854775807) then some (⟨(Lib.trimB s.data.toList 0).toArray⟩ : ByteArray) else none) else none
def strings_Trim_p (k : Nat) : PF := { ps := [(false, 1), (false, 1)], rs := [(false, 1)], τ := (.pair .str .str), σ := .str, f := fun x => strings_Trim k x.1 x.2 }
theorem strings_Trim_ok (k : Nat) : PFOK Tryd.prog tab 56 (strings_Trim_p k) := by
  intro x y hf O w vs cells hO hgl hrc hsh
  obtain ⟨s, c⟩ := x
  obtain ⟨c1, c2, hcs, hr1, hr2⟩ : ∃ c1 c2, cells = c1 ++ c2 ∧ RC O w .str s c1 ∧ RC O w .str c c2 := hrc
  obtain rfl : c1 = [.string s] := hr1
  obtain rfl : c2 = [.string c] := hr2
  obtain ⟨v1, ce1, vs1, e1, e2, v2, ce2, vs2, e3, e4, e5, e6⟩ : ∃ v1 ce1 vs1, cells = v1 :: ce1 ∧ vs.toList = v1 :: vs1 ∧ ∃ v2 ce2 vs2, ce1 = v2 :: ce2 ∧ vs1 = v2 :: vs2 ∧ ce2 = [] ∧ vs2 = [] := hsh
  subst e6 e5 e4 e3
  rw [hcs] at e1
  injection e1 with e7 e8
  injection e8 with e9 _
  subst e7 e9
  obtain rfl : vs = #[.string s, .string c] := by apply Array.toList_inj.1; rw [e2]
  have hf' : strings_Trim k s c = some y := hf
  unfold strings_Trim at hf'
  cases h0 : decide (c = (⟨#[0]⟩ : ByteArray)) with
  | false => rw [h0] at hf'; cases hf'
  | true =>
    rw [h0, cond_true] at hf'
    cases h2 : decide (s.size ≤ 9223372036854775807) with
    | false => rw [h2] at hf'; cases hf'
    | true =>
      rw [h2, cond_true] at hf'
      have hy := Option.some.inj hf'
      have n0 := of_decide_eq_true h0
      have n2 := of_decide_eq_true h2
      subst n0
      refine (Tryd.strings_Trim s w n2).mono ?_
      rintro e w' ⟨rfl, hb⟩
      have hbel : Below w.heap.size w w' := by
        rcases hb with rfl | rfl
        · exact ⟨rfl, rfl, rfl, Nat.le_refl _, fun _ _ => rfl⟩
        · exact ⟨rfl, rfl, rfl, Nat.le_refl _, fun _ _ => rfl⟩
      refine ⟨[.string y], ?_, ⟨rfl, fun j cc v hc hv => ?_, fun i j e e' v v' k h => by cases h⟩, hbel⟩
      · rw [← hy]; rfl
      · cases j with
        | zero =>
          cases hc; cases hv
          exact .str y
        | succ j => cases hc
end Go.Proofs.YtibdnfknokkadaaDoor.Ev
