/- The row of HangFates out of its pure statement. -/
import Derived.Test.YtonlbdholdaifaaGreatDoorRw6p1
import Derived.Test.YtonlbdholdaifaaGreatDoorRg6p1
import Derived.Test.YtonlbdholdaifaaGreatDoorRg6p2
import Derived.Test.YtonlbdholdaifaaGreatDoorRg6p3
import Derived.Test.YtonlbdholdaifaaGreatDoorRg6p4
import Derived.Test.YtonlbdholdaifaaGreatDoorRg6p5
import Derived.Test.YtonlbdholdaifaaGreatDoorRg6p6
import Derived.Test.YtonlbdholdaifaaGreatDoorRg6p7
import Derived.Test.YtonlbdholdaifaaGreatDoorRg6p8
import Derived.Test.YtonlbdholdaifaaGreatDoorRg6p9
import Derived.Test.YtonlbdholdaifaaGreatDoorRg6p10
import Derived.Carry
import Derived.LaidMore
import Derived.SevenTiedAt
import Derived.Stop.Joined
set_option linter.unusedVariables false
namespace Go.Proofs.YtonlbdholdaifaaGreatDoor
open Go Go.Rf Go.Proofs Go.RowKit Go.ChangeShapes Go.WideShapes Go.ChangeAt
set_option maxRecDepth 100000 in
theorem lifted6 (hP : ∀ b q c, bytesOK b → queryOK q → f6 (.e6 b q c) = some true) (os : Os) (started : os.Started) (H : Type) (enc : TypeId × Value → H) :
    ReturnsInHanded {} Tryz.checked os 6 .any (fun w args => (Rows.hangFatesSpec.pre enc Tryz.prog Tryz.f6 Rows.hangFatesRow.domain false w args ∧ laidMetH Tryz.prog Rows.hangFatesRow.laid w) ∧ sizedMet enc Tryz.prog Tryz.f6 (OpenSpec.ofChange Rows.hangFatesSpec) false w args)
      (Rows.hangFatesSpec.post enc Tryz.prog Tryz.f6 false true false false) := by
  refine returnsInHanded_of_change_and (C := Tryz.checked) (X := fun w _ => laidMetH Tryz.prog Rows.hangFatesRow.laid w) (fun _ _ _ hh h => h.of_heap hh) own started noinit6 Tryz.func6
    (ChangeSpec.witness_shaped (enc := enc) (C := Tryz.checked) (os := os) (X := fun w _ => laidMetH Tryz.prog Rows.hangFatesRow.laid w) false (World.laidAll Tryz.prog os Rows.hangFatesRow.laid) #[.slice none 0 0, .slice none 0 0, .bool false] 8 (World.laidAll_os _ _ _)
      (World.shaped_of_ZipB (by kernel_rfl) (by kernel_rfl)) (by kernel_rfl) (by kernel_rfl) (by kernel_rfl)
      (by rw [MakeChecks.laidMetH_plain _ _ _ (by kernel_rfl)]; exact laidMet_laidAll _ (by kernel_rfl) (by kernel_rfl))) ?_
  intro W base args ds gs before hval0 hW hcnd hsz0 hL _
  have hW' := hW
  obtain ⟨p, q, hA0, hV0, rfl, hfz, hnd⟩ := hW
  have hA : DataW.TrodAll enc Tryz.prog W 0 (fun _ => true) true Tryz.f6.params.toList args.toList ds p := hA0
  have hV : DataW.TrodVars enc Tryz.prog W (fun _ => true) [] gs q := hV0
  have hsz : (DataW.weightsEach Tryz.prog (Tryz.f6.params.toList ++ []) (ds ++ gs)).all (· ≤ reachBytes) = true := hsz0
  have hval : ∀ (j : Nat) t v, Tryz.f6.params[j]? = some t → args[j]? = some v → Value.okWide Tryz.prog W .any base t v := hval0
  rw [Tryz.params6] at hA hsz hval
  obtain ⟨v0, vs0, d0, ds0, p0, q0, hargs, rfl, rfl, h0, r0⟩ := trodAll_cons hA
  obtain ⟨v1, vs1, d1, ds1, p1, q1, rfl, rfl, rfl, h1, r1⟩ := trodAll_cons r0
  obtain ⟨v2, vs2, d2, ds2, p2, q2, rfl, rfl, rfl, h2, r2⟩ := trodAll_cons r1
  obtain ⟨rfl, rfl, rfl⟩ := trodAll_nil r2
  obtain rfl : args = #[v0, v1, v2] := by cases args; simp_all
  obtain ⟨rfl, rfl⟩ := trodVars_none hV
  obtain ⟨a0, l0, c0, rfl⟩ := okWide_slice Tryz.underlying22 (hval 0 22 v0 rfl rfl)
  obtain ⟨a1, l1, c1, rfl⟩ := okWide_slice Tryz.underlying24 (hval 1 24 v1 rfl rfl)
  obtain ⟨b2, rfl⟩ := okWide_bool Tryz.underlying4 (hval 2 4 v2 rfl rfl)
  have k0 := h0
  have k1 := h1
  have k2 := h2
  obtain ⟨n0, h0⟩ := h0
  obtain ⟨n1, h1⟩ := h1
  obtain ⟨n2, h2⟩ := h2
  have hw : (DataW.weights Tryz.prog 22 d0).all (· ≤ reachBytes) = true ∧ (DataW.weights Tryz.prog 24 d1).all (· ≤ reachBytes) = true ∧ (DataW.weights Tryz.prog 4 d2).all (· ≤ reachBytes) = true := by
    have : (d0.weights Tryz.prog 22 ++ (d1.weights Tryz.prog 24 ++ (d2.weights Tryz.prog 4 ++ []))).all (· ≤ reachBytes) = true := hsz
    simp only [List.all_append, Bool.and_eq_true] at this
    exact ⟨this.1, this.2.1, this.2.2.1⟩
  obtain ⟨b, hb, ob⟩ := opens_bytes enc 0 _ true n0 _ d0 p0 h0 hw.1
  obtain ⟨qq, hq, oq⟩ := opens_query enc 0 _ true n1 _ d1 p1 h1 hw.2.1
  obtain ⟨bb, hbb, _⟩ := opens_bool (Ty := Ty) Tryz.underlying4 enc 0 _ true n2 _ d2 p2 h2 hw.2.2
  have e0 := hb.2 0 _ _ rfl rfl
  have e1 := hq.2 0 _ _ rfl rfl
  have e2 := hbb.2 0 _ _ rfl rfl
  have lt0 : ∀ x ∈ p0, x.block < W.heap.size := DataW.trod_lt n0 _ _ _ h0
  have lt2 : ∀ x ∈ p2, x.block < W.heap.size := DataW.trod_lt n2 _ _ _ h2
  have lt1 : ∀ x ∈ p1, x.block < W.heap.size := DataW.trod_lt n1 _ _ _ h1
  have hcalls := does_row (d6 (hP b qq bb ob oq)) (.cons e0 (.cons e1 (.cons e2 .nil))) (fun p hp => by cases hp)
  refine hcalls.mono fun e W' ⟨he, bel⟩ => ?_
  subst he
  exact ⟨_, rfl, _, _, _, [], _, [], hW', trodAll_mk1 (shut_bool Tryz.underlying4 _), (trodAll_cons_mk (Below.trod laidOut (by kernel_rfl) (of_decide_eq_true (by kernel_rfl)) k0 bel lt0) (trodAll_cons_mk (Below.trod laidOut (by kernel_rfl) (of_decide_eq_true (by kernel_rfl)) k1 bel lt1) (trodAll_cons_mk (Below.trod laidOut (by kernel_rfl) (of_decide_eq_true (by kernel_rfl)) k2 bel lt2) trodAll_mk0))), rfl, bel.frame _, fun h => by cases h⟩
theorem said6 (hP : ∀ b q c, bytesOK b → queryOK q → f6 (.e6 b q c) = some true) : Rows.HangFatesSaid :=
  OpenClaim.holds_of_wide 6 Tryz.f6 rfl rfl rfl rfl rfl rfl rfl ⟨rfl, rfl, rfl, rfl, rfl⟩ rfl rfl rfl rfl rfl named6 Tryz.func6 closed6 insta6 wrapp6
    (fun os started H enc _ => lifted6 hP os started H enc)
end Go.Proofs.YtonlbdholdaifaaGreatDoor
