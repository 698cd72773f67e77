/- EvalRows answers true at every text and every query and leaves both as they were, given that the five listed package-level variables start as the program's text lays them: the tied card of rifflelaw16.EvalRows. -/
import Derived.Test.YtonlbdholdaifaaGreatDoorRwp2
import Derived.Test.YtonlbdholdaifaaGreatDoorPup1
import Derived.Test.YtonlbdholdaifaaGreatDoorCards
import Derived.Test.YtonlbdholdaifaaGreatDoorTie
import Derived.SevenTiedAt
namespace Go.Proofs.YtonlbdholdaifaaGreatDoor
open Go Go.Proofs
theorem evalRows_card : Rows.EvalRowsCardSaid :=
  Claim7.holds_tied_plain_at .later [] [.data, .data, .data, .sentinel, .sentinel] true (true, "9bbcd49bed471a6d8965d3df096e4b6aa957339af23ec6fd7dac5f1315be1993") true
    (said5 pure5) (fun _ h => by cases h) (by kernel_rfl) (fun _ h => by cases h) evalRows_row_tie rfl ⟨rfl, rfl⟩ (by kernel_rfl) rfl
    (fun f fn hf hfn => by
      obtain rfl : f = 5 := Option.some.inj ((show Tryz.prog.funcNamed "riffle/rifflelaw16.EvalRows" = some 5 by kernel_rfl).symm.trans hf) |>.symm
      obtain rfl : fn = Tryz.f5 := (Option.some.inj (Tryz.func5.symm.trans hfn)).symm
      exact ⟨by kernel_rfl, fun j t ht => by
        rw [Tryz.params5] at ht
        have h3 : t = 22 ∨ t = 24 := by
          rcases j with _ | _ | j
          · exact .inl (by simpa using ht.symm)
          · exact .inr (by simpa using ht.symm)
          · simp at ht
        rcases h3 with rfl | rfl
        · exact (show Tryz.prog.wantsStandIn 22 = false by kernel_rfl)
        · exact (show Tryz.prog.wantsStandIn 24 = false by kernel_rfl)⟩)
    (by kernel_rfl)
#print axioms evalRows_card
end Go.Proofs.YtonlbdholdaifaaGreatDoor
