import Derived.Test.YtonlbdholdaifaaGreatDoorRfp4
import Derived.Test.YtonlbdholdaifaaGreatDoorRgp1
import Derived.Test.YtonlbdholdaifaaGreatDoorRows
import Derived.Lay
import Derived.LaidLaws
import Derived.ProofKit
import Derived.WalkKit
import Derived.ChangeOld
import Derived.ChangeVars
import Derived.JoinedOf
import Derived.SizedLaws
import Derived.OpenShut
import Derived.KernelRfl
section
/- What the seat's rows lean on: queries opened; a start at which the listed variables are laid. -/
set_option linter.unusedVariables false
set_option maxRecDepth 10000
namespace Go.Proofs.YtonlbdholdaifaaGreatDoor
open Go Go.Rf Go.Proofs Go.RowKit

theorem own : ownKnob Tryz.prog.godebug = none := by kernel_rfl
theorem laidOut : laidOutB Tryz.prog = true := by kernel_rfl
/-- Whole numbers of a selector fit. -/
def selOK (s : ApiSelector) : Prop := (Lit.int .i64 s.kind).wf = true ∧ s.name.length ≤ reachBytes ∧ (Lit.int .i64 s.index).wf = true ∧ (Lit.int .i64 s.start).wf = true ∧ (Lit.int .i64 s.stop).wf = true ∧ (Lit.int .i64 s.stride).wf = true
def segOK (s : ApiSegment) : Prop := s.selectors.length ≤ reachBytes ∧ ∀ x, x ∈ s.selectors → selOK x
def queryOK (q : List ApiSegment) : Prop := q.length ≤ reachBytes ∧ ∀ s, s ∈ q → segOK s
def bytesOK (b : List UInt8) : Prop := b.length ≤ reachBytes
section
variable {w : World}
theorem opens_sel : Opens Tryz.prog w 49 (GC.cells Ty.sApiSelector) selOK := by
  intro H enc base spare held fuel cs d ps h hw
  obtain ⟨hl, hs⟩ := struct_inv Tryz.underlying49 h hw
  replace hl : cs.length = 8 := hl.trans (by kernel_rfl)
  obtain ⟨x0, r0, k0⟩ := field_open (i := 0) (ft := 3) (o := 0) (n := 1) hs rfl (by kernel_rfl) (opens_int (Ty := Ty) Tryz.underlying3)
  obtain ⟨x1, r1, k1⟩ := field_open (i := 1) (ft := 9) (o := 1) (n := 1) hs rfl (by kernel_rfl) (opens_str (Ty := Ty) Tryz.underlying9)
  obtain ⟨x2, r2, k2⟩ := field_open (i := 2) (ft := 3) (o := 2) (n := 1) hs rfl (by kernel_rfl) (opens_int (Ty := Ty) Tryz.underlying3)
  obtain ⟨x3, r3, k3⟩ := field_open (i := 3) (ft := 3) (o := 3) (n := 1) hs rfl (by kernel_rfl) (opens_int (Ty := Ty) Tryz.underlying3)
  obtain ⟨x4, r4, k4⟩ := field_open (i := 4) (ft := 3) (o := 4) (n := 1) hs rfl (by kernel_rfl) (opens_int (Ty := Ty) Tryz.underlying3)
  obtain ⟨x5, r5, k5⟩ := field_open (i := 5) (ft := 4) (o := 5) (n := 1) hs rfl (by kernel_rfl) (opens_bool (Ty := Ty) Tryz.underlying4)
  obtain ⟨x6, r6, k6⟩ := field_open (i := 6) (ft := 4) (o := 6) (n := 1) hs rfl (by kernel_rfl) (opens_bool (Ty := Ty) Tryz.underlying4)
  obtain ⟨x7, r7, k7⟩ := field_open (i := 7) (ft := 3) (o := 7) (n := 1) hs rfl (by kernel_rfl) (opens_int (Ty := Ty) Tryz.underlying3)
  exact ⟨⟨x0, x1, x2, x3, x4, x5, x6, x7⟩, .chunk (o := 0) r0 (.chunk r1 (.chunk r2 (.chunk r3 (.chunk r4 (.chunk r5 (.chunk r6 (.chunk r7 (.stop hl)))))))), k0, k1, k2, k3, k4, k7⟩
theorem opens_seg : Opens Tryz.prog w 47 (GC.cells Ty.sApiSegment) segOK := by
  intro H enc base spare held fuel cs d ps h hw
  obtain ⟨hl, hs⟩ := struct_inv Tryz.underlying47 h hw
  replace hl : cs.length = 2 := hl.trans (by kernel_rfl)
  obtain ⟨x0, r0, k0⟩ := field_open (i := 0) (ft := 4) (o := 0) (n := 1) hs rfl (by kernel_rfl) (opens_bool (Ty := Ty) Tryz.underlying4)
  obtain ⟨x1, r1, k1⟩ := field_open (i := 1) (ft := 45) (o := 1) (n := 1) hs rfl (by kernel_rfl) (opens_slice (τ := Ty.sApiSelector) Tryz.underlying45 opens_sel (by kernel_rfl) (of_decide_eq_true (by kernel_rfl)))
  exact ⟨⟨x0, x1⟩, .chunk (o := 0) r0 (.chunk r1 (.stop hl)), k1⟩
theorem opens_query : Opens Tryz.prog w 24 (fun q : List ApiSegment => [PV.sl Ty.sApiSegment q]) queryOK := opens_slice (τ := Ty.sApiSegment) Tryz.underlying24 opens_seg (by kernel_rfl) (of_decide_eq_true (by kernel_rfl))
theorem opens_bytes : Opens Tryz.prog w 22 (fun b : List UInt8 => [PV.sl Ty.u8 b]) bytesOK := by
  intro H enc base spare held fuel cs d ps h hw
  obtain ⟨x, h1, h2, _⟩ := opens_slice (τ := Ty.u8) (okE := fun _ => True) Tryz.underlying22 (opens_u8 (Ty := Ty) Tryz.underlying5) (by kernel_rfl) (of_decide_eq_true (by kernel_rfl)) enc base spare held fuel cs d ps h hw
  exact ⟨x, h1, h2⟩
end
end Go.Proofs.YtonlbdholdaifaaGreatDoor
end
section
/- The closed facts of the row of EvalRows. -/
namespace Go.Proofs.YtonlbdholdaifaaGreatDoor
open Go Go.Proofs
set_option maxRecDepth 100000
theorem fa5_0 : (Rows.evalRowsRow.wf (OpenSpec.ofChange Rows.evalRowsSpec)) = true := by kernel_rfl
theorem fa5_1 : (laidOutB Tryz.prog) = true := by kernel_rfl
theorem fa5_2 : (mapsRowed Tryz.prog) = true := by kernel_rfl
theorem fa5_3 : (Tryz.f5.params.all (Tryz.prog.readableRec ·)) = true := by kernel_rfl
theorem fa5_4 : (namedTie Tryz.prog Rows.evalRowsRow.named Rows.evalRowsSpec.vars) = true := by kernel_rfl
theorem fa5_5 : ((Rows.evalRowsRow.stops == [])) = true := by kernel_rfl
theorem fa5_6 : ((Tryz.prog.stops == [])) = true := by kernel_rfl
theorem fa5_7 : ((Rows.evalRowsRow.knobs == [])) = true := by kernel_rfl
theorem fa5_8 : ((Tryz.prog.stopKnobs == [])) = true := by kernel_rfl
theorem fa5_9 : ((Rows.evalRowsRow.inPlace == Tryz.prog.inPlace 5)) = true := by kernel_rfl
theorem fa5_10 : ((Rows.evalRowsRow.unfollowed == Tryz.prog.unfollowed 5)) = true := by kernel_rfl
theorem fa5_11 : ((Rows.evalRowsRow.recurses == Tryz.prog.recurses 5)) = true := by kernel_rfl
theorem fa5_12 : ((Rows.evalRowsRow.named == Tryz.prog.varsNamed 5)) = true := by kernel_rfl
theorem fa5_13 : ((Rows.evalRowsRow.maps == (Tryz.f5.params.toList ++ Rows.evalRowsSpec.plain.varTypes Tryz.prog).any (Tryz.prog.mapsRec ·))) = true := by kernel_rfl
theorem fa5_14 : ((Rows.evalRowsRow.ifaces == (Tryz.f5.params.toList ++ Rows.evalRowsSpec.plain.varTypes Tryz.prog).any (Tryz.prog.ifacesRec ·))) = true := by kernel_rfl
theorem fa5_15 : ((Rows.evalRowsRow.mapsOut == Tryz.prog.mapsAmong Tryz.f5.resultTypes.toList)) = true := by kernel_rfl
theorem fa5_16 : ((Rows.evalRowsRow.loops == (Tryz.f5.params.toList ++ Rows.evalRowsSpec.plain.varTypes Tryz.prog).any (Tryz.prog.loopsFrom ·))) = true := by kernel_rfl
theorem fa5_17 : ((Rows.evalRowsRow.wideKeys == (Tryz.f5.params.toList ++ Rows.evalRowsSpec.plain.varTypes Tryz.prog ++ Tryz.f5.resultTypes.toList).any (Tryz.prog.wideKeysFrom ·))) = true := by kernel_rfl
theorem fa5_18 : (Rows.evalRowsSpec.vars.all (Tryz.prog.varReadable ·)) = true := by kernel_rfl
theorem fa5_19 : (Tryz.f5.resultTypes.all (fun t => Tryz.prog.readableRec t && decide (t < Tryz.prog.types.size))) = true := by kernel_rfl
theorem fa5_20 : ((Rows.evalRowsRow.ifacesOut == Tryz.f5.resultTypes.toList.any (Tryz.prog.ifacesRec ·))) = true := by kernel_rfl
theorem fa5_21 : ((Rows.evalRowsRow.loopsOut == Tryz.f5.resultTypes.toList.any (Tryz.prog.loopsFrom ·))) = true := by kernel_rfl
theorem fa5_22 : ((Rows.evalRowsRow.plainKeys == Tryz.prog.plainKeys)) = true := by kernel_rfl
theorem fa5_23 : (Rows.evalRowsRow.shortTexts.isNone) = true := by kernel_rfl
theorem fa5_24 : (Tryz.prog.stopsHeard) = true := by kernel_rfl
theorem fa5_25 : (Tryz.prog.mayEnter) = true := by kernel_rfl
theorem fa5_26 : ((Rows.evalRowsRow.lifted == Tryz.prog.liftsFinal)) = true := by kernel_rfl
theorem fa5_27 : ((Tryz.prog.make == some Rows.evalRowsRow.make)) = true := by kernel_rfl
theorem fa5_28 : ((Rows.evalRowsRow.kinds == (if Rows.evalRowsRow.domain.isEmpty then [] else Tryz.f5.params.toList.map fun t => match Tryz.prog.underlying t with | some (.int k) => some k | _ => none))) = true := by kernel_rfl
theorem fa5_29 : ((Rows.evalRowsRow.pinned == Rows.evalRowsRow.pinnedBy)) = true := by kernel_rfl
theorem fa5_30 : ((Rows.evalRowsRow.veiled == (Tryz.f5.params.toList ++ Rows.evalRowsSpec.plain.varTypes Tryz.prog ++ Tryz.f5.resultTypes.toList).any (Tryz.prog.veiledRec ·))) = true := by kernel_rfl
theorem fa5_31 : (Rows.evalRowsRow.veiledFits Tryz.prog Tryz.f5.params.toList (Tryz.f5.params.toList ++ Rows.evalRowsSpec.plain.varTypes Tryz.prog ++ Tryz.f5.resultTypes.toList)) = true := by kernel_rfl
theorem and_t {a b : Bool} (h : a = true) (k : b = true) : (a && b) = true := by subst h; subst k; rfl
theorem closed5 : joinedFacts Tryz.prog 5 Tryz.f5 Rows.evalRowsSpec Rows.evalRowsRow = true := by
  unfold joinedFacts
  exact and_t (and_t (and_t (and_t (and_t (and_t (and_t (and_t (and_t (and_t (and_t (and_t (and_t (and_t (and_t (and_t (and_t (and_t (and_t (and_t (and_t (and_t (and_t (and_t (and_t (and_t (and_t (and_t (and_t (and_t (and_t (fa5_0) fa5_1) fa5_2) fa5_3) fa5_4) fa5_5) fa5_6) fa5_7) fa5_8) fa5_9) fa5_10) fa5_11) fa5_12) fa5_13) fa5_14) fa5_15) fa5_16) fa5_17) fa5_18) fa5_19) fa5_20) fa5_21) fa5_22) fa5_23) fa5_24) fa5_25) fa5_26) fa5_27) fa5_28) fa5_29) fa5_30) fa5_31
theorem named5 : Tryz.prog.funcNamed Rows.evalRowsRow.func = some 5 := by kernel_rfl
theorem noinit5 : Tryz.prog.inits.idxOf? 5 = none := by kernel_rfl
theorem insta5 : Tryz.f5.isInstance Tryz.prog Rows.evalRowsRow.origin Rows.evalRowsRow.targs := of_decide_eq_true (by kernel_rfl)
theorem wrapp5 : Tryz.f5.isWrapper Tryz.prog Rows.evalRowsRow.wrapper Rows.evalRowsRow.mainSum := by unfold Func.isWrapper; first | (rw [if_pos (by decide +kernel)]; kernel_rfl) | (rw [if_neg (by decide +kernel)]; exact ⟨rfl, rfl⟩)
end Go.Proofs.YtonlbdholdaifaaGreatDoor
end
