import Derived.Test.YtonlbdholdaifaaGreatDoorRfp4
import Derived.Test.YtonlbdholdaifaaGreatDoorRg6p1
import Derived.Test.YtonlbdholdaifaaGreatDoorRows
import Derived.Lay
import Derived.LaidLaws
import Derived.ProofKit
import Derived.WalkKit
import Derived.ChangeOld
import Derived.ChangeVars
import Derived.JoinedOf
import Derived.SizedLaws
import Derived.OpenShut
import Derived.KernelRfl
section
/- What the seat's rows lean on: queries opened; a start at which the listed variables are laid. -/
set_option linter.unusedVariables false
set_option maxRecDepth 10000
namespace Go.Proofs.YtonlbdholdaifaaGreatDoor
open Go Go.Rf Go.Proofs Go.RowKit

theorem own : ownKnob Tryz.prog.godebug = none := by kernel_rfl
theorem laidOut : laidOutB Tryz.prog = true := by kernel_rfl
/-- Whole numbers of a selector fit. -/
def selOK (s : ApiSelector) : Prop := (Lit.int .i64 s.kind).wf = true ∧ s.name.length ≤ reachBytes ∧ (Lit.int .i64 s.index).wf = true ∧ (Lit.int .i64 s.start).wf = true ∧ (Lit.int .i64 s.stop).wf = true ∧ (Lit.int .i64 s.stride).wf = true
def segOK (s : ApiSegment) : Prop := s.selectors.length ≤ reachBytes ∧ ∀ x, x ∈ s.selectors → selOK x
def queryOK (q : List ApiSegment) : Prop := q.length ≤ reachBytes ∧ ∀ s, s ∈ q → segOK s
def bytesOK (b : List UInt8) : Prop := b.length ≤ reachBytes
section
variable {w : World}
theorem opens_sel : Opens Tryz.prog w 49 (GC.cells Ty.sApiSelector) selOK := by
  intro H enc base spare held fuel cs d ps h hw
  obtain ⟨hl, hs⟩ := struct_inv Tryz.underlying49 h hw
  replace hl : cs.length = 8 := hl.trans (by kernel_rfl)
  obtain ⟨x0, r0, k0⟩ := field_open (i := 0) (ft := 3) (o := 0) (n := 1) hs rfl (by kernel_rfl) (opens_int (Ty := Ty) Tryz.underlying3)
  obtain ⟨x1, r1, k1⟩ := field_open (i := 1) (ft := 9) (o := 1) (n := 1) hs rfl (by kernel_rfl) (opens_str (Ty := Ty) Tryz.underlying9)
  obtain ⟨x2, r2, k2⟩ := field_open (i := 2) (ft := 3) (o := 2) (n := 1) hs rfl (by kernel_rfl) (opens_int (Ty := Ty) Tryz.underlying3)
  obtain ⟨x3, r3, k3⟩ := field_open (i := 3) (ft := 3) (o := 3) (n := 1) hs rfl (by kernel_rfl) (opens_int (Ty := Ty) Tryz.underlying3)
  obtain ⟨x4, r4, k4⟩ := field_open (i := 4) (ft := 3) (o := 4) (n := 1) hs rfl (by kernel_rfl) (opens_int (Ty := Ty) Tryz.underlying3)
  obtain ⟨x5, r5, k5⟩ := field_open (i := 5) (ft := 4) (o := 5) (n := 1) hs rfl (by kernel_rfl) (opens_bool (Ty := Ty) Tryz.underlying4)
  obtain ⟨x6, r6, k6⟩ := field_open (i := 6) (ft := 4) (o := 6) (n := 1) hs rfl (by kernel_rfl) (opens_bool (Ty := Ty) Tryz.underlying4)
  obtain ⟨x7, r7, k7⟩ := field_open (i := 7) (ft := 3) (o := 7) (n := 1) hs rfl (by kernel_rfl) (opens_int (Ty := Ty) Tryz.underlying3)
  exact ⟨⟨x0, x1, x2, x3, x4, x5, x6, x7⟩, .chunk (o := 0) r0 (.chunk r1 (.chunk r2 (.chunk r3 (.chunk r4 (.chunk r5 (.chunk r6 (.chunk r7 (.stop hl)))))))), k0, k1, k2, k3, k4, k7⟩
theorem opens_seg : Opens Tryz.prog w 47 (GC.cells Ty.sApiSegment) segOK := by
  intro H enc base spare held fuel cs d ps h hw
  obtain ⟨hl, hs⟩ := struct_inv Tryz.underlying47 h hw
  replace hl : cs.length = 2 := hl.trans (by kernel_rfl)
  obtain ⟨x0, r0, k0⟩ := field_open (i := 0) (ft := 4) (o := 0) (n := 1) hs rfl (by kernel_rfl) (opens_bool (Ty := Ty) Tryz.underlying4)
  obtain ⟨x1, r1, k1⟩ := field_open (i := 1) (ft := 45) (o := 1) (n := 1) hs rfl (by kernel_rfl) (opens_slice (τ := Ty.sApiSelector) Tryz.underlying45 opens_sel (by kernel_rfl) (of_decide_eq_true (by kernel_rfl)))
  exact ⟨⟨x0, x1⟩, .chunk (o := 0) r0 (.chunk r1 (.stop hl)), k1⟩
theorem opens_query : Opens Tryz.prog w 24 (fun q : List ApiSegment => [PV.sl Ty.sApiSegment q]) queryOK := opens_slice (τ := Ty.sApiSegment) Tryz.underlying24 opens_seg (by kernel_rfl) (of_decide_eq_true (by kernel_rfl))
theorem opens_bytes : Opens Tryz.prog w 22 (fun b : List UInt8 => [PV.sl Ty.u8 b]) bytesOK := by
  intro H enc base spare held fuel cs d ps h hw
  obtain ⟨x, h1, h2, _⟩ := opens_slice (τ := Ty.u8) (okE := fun _ => True) Tryz.underlying22 (opens_u8 (Ty := Ty) Tryz.underlying5) (by kernel_rfl) (of_decide_eq_true (by kernel_rfl)) enc base spare held fuel cs d ps h hw
  exact ⟨x, h1, h2⟩
end
end Go.Proofs.YtonlbdholdaifaaGreatDoor
end
section
/- The closed facts of the row of HangFates. -/
namespace Go.Proofs.YtonlbdholdaifaaGreatDoor
open Go Go.Proofs
set_option maxRecDepth 100000
theorem fa6_0 : (Rows.hangFatesRow.wf (OpenSpec.ofChange Rows.hangFatesSpec)) = true := by kernel_rfl
theorem fa6_1 : (laidOutB Tryz.prog) = true := by kernel_rfl
theorem fa6_2 : (mapsRowed Tryz.prog) = true := by kernel_rfl
theorem fa6_3 : (Tryz.f6.params.all (Tryz.prog.readableRec ·)) = true := by kernel_rfl
theorem fa6_4 : (namedTie Tryz.prog Rows.hangFatesRow.named Rows.hangFatesSpec.vars) = true := by kernel_rfl
theorem fa6_5 : ((Rows.hangFatesRow.stops == [])) = true := by kernel_rfl
theorem fa6_6 : ((Tryz.prog.stops == [])) = true := by kernel_rfl
theorem fa6_7 : ((Rows.hangFatesRow.knobs == [])) = true := by kernel_rfl
theorem fa6_8 : ((Tryz.prog.stopKnobs == [])) = true := by kernel_rfl
theorem fa6_9 : ((Rows.hangFatesRow.inPlace == Tryz.prog.inPlace 6)) = true := by kernel_rfl
theorem fa6_10 : ((Rows.hangFatesRow.unfollowed == Tryz.prog.unfollowed 6)) = true := by kernel_rfl
theorem fa6_11 : ((Rows.hangFatesRow.recurses == Tryz.prog.recurses 6)) = true := by kernel_rfl
theorem fa6_12 : ((Rows.hangFatesRow.named == Tryz.prog.varsNamed 6)) = true := by kernel_rfl
theorem fa6_13 : ((Rows.hangFatesRow.maps == (Tryz.f6.params.toList ++ Rows.hangFatesSpec.plain.varTypes Tryz.prog).any (Tryz.prog.mapsRec ·))) = true := by kernel_rfl
theorem fa6_14 : ((Rows.hangFatesRow.ifaces == (Tryz.f6.params.toList ++ Rows.hangFatesSpec.plain.varTypes Tryz.prog).any (Tryz.prog.ifacesRec ·))) = true := by kernel_rfl
theorem fa6_15 : ((Rows.hangFatesRow.mapsOut == Tryz.prog.mapsAmong Tryz.f6.resultTypes.toList)) = true := by kernel_rfl
theorem fa6_16 : ((Rows.hangFatesRow.loops == (Tryz.f6.params.toList ++ Rows.hangFatesSpec.plain.varTypes Tryz.prog).any (Tryz.prog.loopsFrom ·))) = true := by kernel_rfl
theorem fa6_17 : ((Rows.hangFatesRow.wideKeys == (Tryz.f6.params.toList ++ Rows.hangFatesSpec.plain.varTypes Tryz.prog ++ Tryz.f6.resultTypes.toList).any (Tryz.prog.wideKeysFrom ·))) = true := by kernel_rfl
theorem fa6_18 : (Rows.hangFatesSpec.vars.all (Tryz.prog.varReadable ·)) = true := by kernel_rfl
theorem fa6_19 : (Tryz.f6.resultTypes.all (fun t => Tryz.prog.readableRec t && decide (t < Tryz.prog.types.size))) = true := by kernel_rfl
theorem fa6_20 : ((Rows.hangFatesRow.ifacesOut == Tryz.f6.resultTypes.toList.any (Tryz.prog.ifacesRec ·))) = true := by kernel_rfl
theorem fa6_21 : ((Rows.hangFatesRow.loopsOut == Tryz.f6.resultTypes.toList.any (Tryz.prog.loopsFrom ·))) = true := by kernel_rfl
theorem fa6_22 : ((Rows.hangFatesRow.plainKeys == Tryz.prog.plainKeys)) = true := by kernel_rfl
theorem fa6_23 : (Rows.hangFatesRow.shortTexts.isNone) = true := by kernel_rfl
theorem fa6_24 : (Tryz.prog.stopsHeard) = true := by kernel_rfl
theorem fa6_25 : (Tryz.prog.mayEnter) = true := by kernel_rfl
theorem fa6_26 : ((Rows.hangFatesRow.lifted == Tryz.prog.liftsFinal)) = true := by kernel_rfl
theorem fa6_27 : ((Tryz.prog.make == some Rows.hangFatesRow.make)) = true := by kernel_rfl
theorem fa6_28 : ((Rows.hangFatesRow.kinds == (if Rows.hangFatesRow.domain.isEmpty then [] else Tryz.f6.params.toList.map fun t => match Tryz.prog.underlying t with | some (.int k) => some k | _ => none))) = true := by kernel_rfl
theorem fa6_29 : ((Rows.hangFatesRow.pinned == Rows.hangFatesRow.pinnedBy)) = true := by kernel_rfl
theorem fa6_30 : ((Rows.hangFatesRow.veiled == (Tryz.f6.params.toList ++ Rows.hangFatesSpec.plain.varTypes Tryz.prog ++ Tryz.f6.resultTypes.toList).any (Tryz.prog.veiledRec ·))) = true := by kernel_rfl
theorem fa6_31 : (Rows.hangFatesRow.veiledFits Tryz.prog Tryz.f6.params.toList (Tryz.f6.params.toList ++ Rows.hangFatesSpec.plain.varTypes Tryz.prog ++ Tryz.f6.resultTypes.toList)) = true := by kernel_rfl
theorem and_t {a b : Bool} (h : a = true) (k : b = true) : (a && b) = true := by subst h; subst k; rfl
theorem closed6 : joinedFacts Tryz.prog 6 Tryz.f6 Rows.hangFatesSpec Rows.hangFatesRow = true := by
  unfold joinedFacts
  exact and_t (and_t (and_t (and_t (and_t (and_t (and_t (and_t (and_t (and_t (and_t (and_t (and_t (and_t (and_t (and_t (and_t (and_t (and_t (and_t (and_t (and_t (and_t (and_t (and_t (and_t (and_t (and_t (and_t (and_t (and_t (fa6_0) fa6_1) fa6_2) fa6_3) fa6_4) fa6_5) fa6_6) fa6_7) fa6_8) fa6_9) fa6_10) fa6_11) fa6_12) fa6_13) fa6_14) fa6_15) fa6_16) fa6_17) fa6_18) fa6_19) fa6_20) fa6_21) fa6_22) fa6_23) fa6_24) fa6_25) fa6_26) fa6_27) fa6_28) fa6_29) fa6_30) fa6_31
theorem named6 : Tryz.prog.funcNamed Rows.hangFatesRow.func = some 6 := by kernel_rfl
theorem noinit6 : Tryz.prog.inits.idxOf? 6 = none := by kernel_rfl
theorem insta6 : Tryz.f6.isInstance Tryz.prog Rows.hangFatesRow.origin Rows.hangFatesRow.targs := of_decide_eq_true (by kernel_rfl)
theorem wrapp6 : Tryz.f6.isWrapper Tryz.prog Rows.hangFatesRow.wrapper Rows.hangFatesRow.mainSum := by unfold Func.isWrapper; first | (rw [if_pos (by decide +kernel)]; kernel_rfl) | (rw [if_neg (by decide +kernel)]; exact ⟨rfl, rfl⟩)
end Go.Proofs.YtonlbdholdaifaaGreatDoor
end
