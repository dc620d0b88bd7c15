/- A walk through code on symbolic values, part 3 of 3: what is shown of every program, no statement of this one. -/
import Derived.Shelf.Small.Strs
import Derived.Test.YtoennnfpnfaffaaLibB
set_option linter.unusedVariables false
namespace Go.Pal
open Go Go.Proofs Go.Shelf

theorem ixL_is (c : UInt8) : ∀ l : List UInt8, Lib.indexByte l c = ixL l c
  | [] => rfl
  | b :: l => by rw [Lib.indexByte, ixL, ixL_is c l]

theorem IndexByte_spec {P : Program} {ρ : Ren} (L : Lays.n137 P ρ) (s : ByteArray) (c : Int) :
    Spec P (ρ.f 137) 0 [.c (.val (.string s)), .c (.val (.int .u8 c))] [] (.c (.val (.int .i64 (ixB s c)))) [] := by
  intro G σ w us hsat hargs
  match us, hargs with
  | [u0, u1], ⟨a0, a1, _⟩ =>
    have a0' : u0 = .string s := a0
    have a1' : u1 = .int .u8 c := a1
    subst a0' a1'
    refine (Any.strings_IndexByte L s c w).mono ?_
    rintro e w' ⟨rfl, rfl⟩
    refine ⟨_, σ, rfl, hsat, ?_, fun _ _ => rfl⟩
    rw [ixL_is]
    rfl

end Go.Pal
