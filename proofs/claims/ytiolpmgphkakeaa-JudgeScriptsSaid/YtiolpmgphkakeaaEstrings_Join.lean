/- strings.Join on plain data: the shelf's contract, told as the evaluator wants it. -/
import Derived.Test.YtiolpmgphkakeaaEtab
import Derived.Test.YtiolpmgphkakeaaShelfJ
set_option linter.unusedVariables false
set_option maxRecDepth 1000000
namespace Go.Proofs.Ytiolpmgphkakeaa.Ev
open Go Go.RowKit Go.Proofs
def strings_Join (k : Nat) (elemsa : Bool) (elemsb : List ByteArray) (sep : ByteArray) : Option ByteArray :=
  bif decide (elemsb.length ≤ 1099511627776) then (bif decide ((Lib.join (elemsb.map (·.data.toList)) sep.data.toList).length ≤ 140737488355328) then some (⟨(Lib.join (elemsb.map (·.data.toList)) sep.data.toList).toArray⟩ : ByteArray) else none) else none
def strings_Join_p (k : Nat) : PF := { ps := [(false, 1), (false, 1)], rs := [(false, 1)], τ := (.pair (.sl .str) .str), σ := .str, f := fun x => strings_Join k x.1.1 x.1.2 x.2 }
theorem strings_Join_ok (k : Nat) : PFOK Try.prog tab 34 (strings_Join_p k) := by
  intro x y hf O w vs cells hO hgl hrc hsh
  obtain ⟨⟨nl, l⟩, sep⟩ := x
  obtain ⟨c1, c2, hcs, hr1, hr2⟩ : ∃ c1 c2, cells = c1 ++ c2 ∧ RC O w (.sl .str) (nl, l) c1 ∧ RC O w .str sep c2 := hrc
  obtain ⟨a, cap, rfl, hnl, hcap, hz, hel⟩ : ∃ a cap, c1 = [.slice a l.length cap] ∧ (nl && l.isEmpty) = a.isNone ∧ l.length ≤ cap ∧ (a = none → cap = 0) ∧ ∀ (i : Nat) (y : ByteArray), l[i]? = some y → ∃ ad c, a = some ad ∧ ¬ O ad.block ∧ (∀ j v, c[j]? = some v → w.cell? (ad.add (i * 1 + j)) = some v) ∧ RC O w .str y c := hr1
  obtain rfl : c2 = [.string sep] := hr2
  obtain ⟨v1, ce1, vs1, e1, e2, v2, ce2, vs2, e3, e4, e5, e6⟩ : ∃ v1 ce1 vs1, cells = v1 :: ce1 ∧ vs.toList = v1 :: vs1 ∧ ∃ v2 ce2 vs2, ce1 = v2 :: ce2 ∧ vs1 = v2 :: vs2 ∧ ce2 = [] ∧ vs2 = [] := hsh
  subst e6 e5 e4 e3
  rw [hcs] at e1
  injection e1 with e7 e8
  injection e8 with e9 _
  subst e7 e9
  obtain rfl : vs = #[.slice a l.length cap, .string sep] := by apply Array.toList_inj.1; rw [e2]
  have hf' : strings_Join k nl l sep = some y := hf
  unfold strings_Join at hf'
  cases h1 : decide (l.length ≤ 1099511627776) with
  | false => rw [h1] at hf'; cases hf'
  | true =>
    rw [h1, cond_true] at hf'
    cases h2 : decide ((Lib.join (l.map (·.data.toList)) sep.data.toList).length ≤ 140737488355328) with
    | false => rw [h2] at hf'; cases hf'
    | true =>
      rw [h2, cond_true] at hf'
      have hy := Option.some.inj hf'
      have n1 := of_decide_eq_true h1
      have n2 := of_decide_eq_true h2
      have fin : ∀ w' : World, Below w.heap.size w w' → ∃ cs, Ending.returned (.string y) = .returned (oneOrTupV (unflatV (strings_Join_p k).rs cs)) ∧ ResR O w w' (strings_Join_p k).fr ((strings_Join_p k).σ.cells y) cs ∧ Below w.heap.size w w' := fun w' hb => by
        refine ⟨[.string y], rfl, ⟨rfl, fun j cc v hc hv => ?_, fun i j e e' v v' k h => by cases h⟩, hb⟩
        cases j with
        | zero =>
          cases hc; cases hv
          exact .str y
        | succ j => cases hc
      cases l with
      | nil =>
        refine (Try.strings_Join_none a cap sep w).mono ?_
        rintro e w' ⟨rfl, rfl⟩
        have : (⟨#[]⟩ : ByteArray) = y := hy
        rw [this]
        exact fin w' (Below.refl _ _)
      | cons x0 l =>
        have cell : ∀ (i : Nat) (z : ByteArray), (x0 :: l)[i]? = some z → ∃ ad, a = some ad ∧ w.cell? (ad.add i) = some (.string z) := fun i z hz => by
          obtain ⟨ad, c, ha, _, hc, hr⟩ := hel i z hz
          obtain rfl : c = [.string z] := hr
          refine ⟨ad, ha, ?_⟩
          have := hc 0 (.string z) rfl
          rwa [Nat.mul_one, Nat.add_zero] at this
        obtain ⟨ad, rfl, h0⟩ := cell 0 x0 rfl
        have hadd : ad.add 0 = ad := by unfold Addr.add; rw [if_pos rfl]
        rw [hadd] at h0
        have hspot : ad.spot = none := by
          cases hs : ad.spot with
          | none => rfl
          | some q =>
            unfold World.cell? at h0
            split at h0
            · rw [hs] at h0; cases h0
            · cases h0
        have hlt : ad.block < w.heap.size := World.block_lt_of_cell? w _ h0
        obtain ⟨bk, o, sp⟩ := ad
        obtain rfl : sp = none := hspot
        refine (Try.strings_Join bk o cap (x0 :: l) sep w (fun j z hz => ?_) hlt (by omega) hcap n2).mono ?_
        · obtain ⟨ad', ha', hc'⟩ := cell j z hz
          cases ha'
          unfold Addr.add at hc'
          by_cases hj : j = 0
          · subst hj; rw [if_pos rfl] at hc'; exact hc'
          · rw [if_neg hj] at hc'; exact hc'
        · rintro e w' ⟨rfl, hb⟩
          rw [hy]
          exact fin w' hb
end Go.Proofs.Ytiolpmgphkakeaa.Ev
