/- strings.Repeat on plain data: the shelf's contract, told as the evaluator wants it. -/
import Derived.Test.YtiolpmgphkakeaaEtab
import Derived.Test.YtiolpmgphkakeaaShelf
set_option linter.unusedVariables false
set_option maxRecDepth 1000000
namespace Go.Proofs.Ytiolpmgphkakeaa.Ev
open Go Go.RowKit Go.Proofs
def strings_Repeat (k : Nat) (s : ByteArray) (count : Int) : Option ByteArray :=
  bif decide (count < (0 : Int)) then none else bif decide ((9223372036854775807 : Int) < count) then none else bif decide (s.size * count.toNat ≤ 140737488355328) then some (⟨(Lib.repeatL s.data.toList count.toNat).toArray⟩ : ByteArray) else none
def strings_Repeat_p (k : Nat) : PF := { ps := [(false, 1), (false, 1)], rs := [(false, 1)], τ := (.pair .str (.int .i64)), σ := .str, f := fun x => strings_Repeat k x.1 x.2 }
theorem strings_Repeat_ok (k : Nat) : PFOK Try.prog tab 38 (strings_Repeat_p k) := by
  intro x y hf O w vs cells hO hgl hrc hsh
  obtain ⟨s, c0⟩ := x
  obtain ⟨c, hc0⟩ : ∃ c : Int, c = c0 := ⟨c0, rfl⟩
  subst hc0
  obtain ⟨c1, c2, hcs, hr1, hr2⟩ : ∃ c1 c2, cells = c1 ++ c2 ∧ RC O w .str s c1 ∧ RC O w (.int .i64) c c2 := hrc
  obtain rfl : c1 = [.string s] := hr1
  obtain rfl : c2 = [.int .i64 c] := hr2
  obtain ⟨v1, ce1, vs1, e1, e2, v2, ce2, vs2, e3, e4, e5, e6⟩ : ∃ v1 ce1 vs1, cells = v1 :: ce1 ∧ vs.toList = v1 :: vs1 ∧ ∃ v2 ce2 vs2, ce1 = v2 :: ce2 ∧ vs1 = v2 :: vs2 ∧ ce2 = [] ∧ vs2 = [] := hsh
  subst e6 e5 e4 e3
  rw [hcs] at e1
  injection e1 with e7 e8
  injection e8 with e9 _
  subst e7 e9
  obtain rfl : vs = #[.string s, .int .i64 c] := by apply Array.toList_inj.1; rw [e2]
  have hf' : strings_Repeat k s c = some y := hf
  unfold strings_Repeat at hf'
  cases h0 : decide (c < (0 : Int)) with
  | true => rw [h0] at hf'; cases hf'
  | false =>
    rw [h0, cond_false] at hf'
    cases h1 : decide ((9223372036854775807 : Int) < c) with
    | true => rw [h1] at hf'; cases hf'
    | false =>
      rw [h1, cond_false] at hf'
      cases h2 : decide (s.size * c.toNat ≤ 140737488355328) with
      | false => rw [h2] at hf'; cases hf'
      | true =>
        rw [h2, cond_true] at hf'
        have hy := Option.some.inj hf'
        have n0 := of_decide_eq_false h0
        have n1 := of_decide_eq_false h1
        have n2 := of_decide_eq_true h2
        obtain ⟨n, rfl⟩ : ∃ n : Nat, c = (n : Int) := Int.eq_ofNat_of_zero_le (by omega)
        refine (Try.strings_Repeat s n w (by omega) n2).mono ?_
        rintro e w' ⟨rfl, hb⟩
        refine ⟨[.string y], ?_, ⟨rfl, fun j cc v hc hv => ?_, fun i j e e' v v' k h => by cases h⟩, hb⟩
        · rw [← hy]; rfl
        · cases j with
          | zero =>
            cases hc; cases hv
            exact .str y
          | succ j => cases hc
end Go.Proofs.Ytiolpmgphkakeaa.Ev
