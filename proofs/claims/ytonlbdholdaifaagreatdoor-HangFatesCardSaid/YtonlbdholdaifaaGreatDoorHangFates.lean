/- HangFates answers true at every text, every query and both kinds of parsing, and leaves what it is handed as it was, given that the five listed package-level variables start as the program's text lays them: the tied card of rifflelaw17.HangFates. -/
import Derived.Test.YtonlbdholdaifaaGreatDoorRw6p2
import Derived.Test.YtonlbdholdaifaaGreatDoorPu6p2
import Derived.Test.YtonlbdholdaifaaGreatDoorCards
import Derived.Test.YtonlbdholdaifaaGreatDoorTie
import Derived.SevenTiedAt
namespace Go.Proofs.YtonlbdholdaifaaGreatDoor
open Go Go.Proofs
theorem hangFates_card : Rows.HangFatesCardSaid :=
  Claim7.holds_tied_plain_at .later [] [.data, .data, .data, .sentinel, .sentinel] true (true, "9bbcd49bed471a6d8965d3df096e4b6aa957339af23ec6fd7dac5f1315be1993") true
    (said6 pure6) (fun _ h => by cases h) (by kernel_rfl) (fun _ h => by cases h) hangFates_row_tie rfl ⟨rfl, rfl⟩ (by kernel_rfl) rfl
    (fun f fn hf hfn => by
      obtain rfl : f = 6 := Option.some.inj ((show Tryz.prog.funcNamed "riffle/rifflelaw17.HangFates" = some 6 by kernel_rfl).symm.trans hf) |>.symm
      obtain rfl : fn = Tryz.f6 := (Option.some.inj (Tryz.func6.symm.trans hfn)).symm
      exact ⟨by kernel_rfl, fun j t ht => by
        rw [Tryz.params6] at ht
        have h3 : t = 22 ∨ t = 24 ∨ t = 4 := by
          rcases j with _ | _ | _ | j
          · exact .inl (by simpa using ht.symm)
          · exact .inr (.inl (by simpa using ht.symm))
          · exact .inr (.inr (by simpa using ht.symm))
          · simp at ht
        rcases h3 with rfl | rfl | rfl
        · exact (show Tryz.prog.wantsStandIn 22 = false by kernel_rfl)
        · exact (show Tryz.prog.wantsStandIn 24 = false by kernel_rfl)
        · exact (show Tryz.prog.wantsStandIn 4 = false by kernel_rfl)⟩)
    (by kernel_rfl)
#print axioms hangFates_card
end Go.Proofs.YtonlbdholdaifaaGreatDoor
