import Derived.Test.YtonlbdholdaifaaGreatDoorProg
import Derived.Test.YtonlbdholdaifaaGreatDoorRfp4
import Derived.Test.YtonlbdholdaifaaGreatDoorRg6p1
import Derived.Test.YtonlbdholdaifaaGreatDoorRg6p7
import Derived.Test.YtonlbdholdaifaaGreatDoorRg6p6
import Derived.Test.YtonlbdholdaifaaGreatDoorRg6p2
import Derived.Test.YtonlbdholdaifaaGreatDoorRg6p5
section
set_option linter.unusedVariables false
set_option linter.unusedSimpArgs false
set_option maxRecDepth 10000
namespace Go.Proofs.YtonlbdholdaifaaGreatDoor
open Go Go.Rf Go.Proofs
/-- (*riffle/hang.walker).walk -/
noncomputable abbrev b99 : Code := codeOf Tryz.f99
inductive L99 where
 | e99 (a0 : HangWalker) (a1 : ApiValue) (a2 : List HangFate) (a3 : List ApiStep)
 | l99_0 (a0 : List HangFate) (a1 : List ApiStep) (a2 : ApiValue) (a3 : Int) (a4 : List ApiSegment) (a5 : List HangHit)
 | l99_1 (a0 : List HangFate) (a1 : List ApiStep) (a2 : List ApiValue) (a3 : Int) (a4 : Int) (a5 : ApiValue) (a6 : Int) (a7 : List ApiSegment) (a8 : List HangHit)
 | l99_2 (a0 : List HangFate) (a1 : List ApiStep) (a2 : Int) (a3 : List ApiValue) (a4 : Int) (a5 : Int) (a6 : Bool) (a7 : List UInt8) (a8 : Int) (a9 : ApiValue) (a10 : ApiValue) (a11 : Int) (a12 : List ApiSegment) (a13 : List HangHit)
noncomputable def f99 : L99 → Option HangWalker
 | .e99 a0 a1 a2 a3 =>
  idx a2 (a0.q.length : Int) >>= fun v1 =>
  if ((v1.may && (v1.holds != (9223372036854775807 : Int))) && (a1.to != (0 : Int))) = true then
   f65 (.e65 a3) >>= fun v2 =>
   room a0.out.length ([(⟨a0.number, v2, a1.frm, a1.to, gmax a1.to v1.holds⟩ : HangHit)] : List HangHit).length 56 >>= fun v3 =>
   f99 (.l99_0 a2 a3 a1 a0.number a0.q (a0.out ++ ([(⟨a0.number, v2, a1.frm, a1.to, gmax a1.to v1.holds⟩ : HangHit)] : List HangHit)))
  else
   f99 (.l99_0 a2 a3 a1 a0.number a0.q a0.out)
 | .l99_0 a0 a1 a2 a3 a4 a5 =>
  f99 (.l99_1 a0 a1 a2.items (a2.items.length : Int) (0 : Int) a2 a3 a4 a5)
 | .l99_1 a0 a1 a2 a3 a4 a5 a6 a7 a8 =>
  if (decide (a4 < a3)) = true then
   idx a2 a4 >>= fun v4 =>
   if (a5.kind == (5 : Int)) = true then
    none
   else
    f99 (.l99_2 a0 a1 a4 a2 a3 a4 false [] a4 v4 a5 a6 a7 a8)
  else
   some (⟨a6, a7, a8⟩ : HangWalker)
 | .l99_2 a0 a1 a2 a3 a4 a5 a6 a7 a8 a9 a10 a11 a12 a13 =>
  f85 (.e85 a10 a2 a12 a0) >>= fun v5 =>
  need ((a1.length : Int) = (a1.length : Int) ∧ (a1.length : Int) = (a1.length : Int)) >>= fun v6 =>
  room a1.length ([(⟨a6, a7, a8⟩ : ApiStep)] : List ApiStep).length 32 >>= fun v7 =>
  f99 (.e99 (⟨a11, a12, a13⟩ : HangWalker) a9 v5 (a1 ++ ([(⟨a6, a7, a8⟩ : ApiStep)] : List ApiStep))) >>= fun v8 =>
  f99 (.l99_1 a0 a1 a3 a4 (IntKind.wrap .i64 (a5 + (1 : Int))) a10 v8.number v8.q v8.out)
 partial_fixpoint
def M99 : L99 → HangWalker → Prop
 | .e99 a0 a1 a2 a3, r => ∀ (w : World) (F : Nat → Prop) (ρ : Rho), AK Tryz.prog (ctx GG 97 w F ρ [(20000, .arr 85 Ty.sHangHit a0.out), (10000, .cells 160 [.int .i64 a0.number, .sl Ty.sApiSegment a0.q, .mf 5 20000])]) 99 [.code b99] (argE 0 [.ref 10000 0, .agg [.int .i64 a1.kind, .int .i64 a1.frm, .int .i64 a1.to, .str a1.text, .sl Ty.sApiValue a1.items, .sl Ty.str a1.names], .sl Ty.sHangFate a2, .sl Ty.sApiStep a3]) [(20000, .arr 85 Ty.sHangHit a0.out), (10000, .cells 160 [.int .i64 a0.number, .sl Ty.sApiSegment a0.q, .mf 5 20000])] (fun z σ' => z = .tup [] ∧ σ' = [(20000, .arr 85 Ty.sHangHit r.out), (10000, .cells 160 [.int .i64 r.number, .sl Ty.sApiSegment r.q, .mf 5 20000])])
 | .l99_0 a0 a1 a2 a3 a4 a5, r => ∀ (w : World) (F : Nat → Prop) (ρ : Rho) (S : Nat → Prop), AK Tryz.prog (ctxL GG 97 w F ρ S [10000]) 99 [.code (c2 (c2 b99))] [(0, .ref 10000 0), (2, .sl Ty.sHangFate a0), (3, .sl Ty.sApiStep a1), (5, .ref 5 0)] [(5, .cells 29 [.int .i64 a2.kind, .int .i64 a2.frm, .int .i64 a2.to, .str a2.text, .sl Ty.sApiValue a2.items, .sl Ty.str a2.names]), (10000, .cells 160 [.int .i64 a3, .sl Ty.sApiSegment a4, .mf 5 3054]), (3054, .arr 85 Ty.sHangHit a5)] (fun z σ' => z = .tup [] ∧ σ' = [(20000, .arr 85 Ty.sHangHit r.out), (10000, .cells 160 [.int .i64 r.number, .sl Ty.sApiSegment r.q, .mf 5 20000])])
 | .l99_1 a0 a1 a2 a3 a4 a5 a6 a7 a8, r => ∀ (w : World) (F : Nat → Prop) (ρ : Rho) (S : Nat → Prop), AK Tryz.prog (ctxL GG 97 w F ρ S [10000]) 99 [.code (c1 (c1 (c2 (c2 (c2 b99))))), .inLoop (c1 (c1 (c2 (c2 (c2 b99))))), .inBlock 0] [(0, .ref 10000 0), (2, .sl Ty.sHangFate a0), (3, .sl Ty.sApiStep a1), (5, .ref 5 0), (58, .sl Ty.sApiValue a2), (59, .int .i64 a3), (60, .int .i64 a4)] [(5, .cells 29 [.int .i64 a5.kind, .int .i64 a5.frm, .int .i64 a5.to, .str a5.text, .sl Ty.sApiValue a5.items, .sl Ty.str a5.names]), (10000, .cells 160 [.int .i64 a6, .sl Ty.sApiSegment a7, .mf 5 3054]), (3054, .arr 85 Ty.sHangHit a8)] (fun z σ' => z = .tup [] ∧ σ' = [(20000, .arr 85 Ty.sHangHit r.out), (10000, .cells 160 [.int .i64 r.number, .sl Ty.sApiSegment r.q, .mf 5 20000])])
 | .l99_2 a0 a1 a2 a3 a4 a5 a6 a7 a8 a9 a10 a11 a12 a13, r => ∀ (w : World) (F : Nat → Prop) (ρ : Rho) (S : Nat → Prop), AK Tryz.prog (ctxL GG 97 w F ρ S [10000]) 99 [.code (c2 (c2 (c2 (c1 (c1 (c2 (c2 (c1 (c1 (c2 (c2 (c2 b99)))))))))))), .inBlock 1, .code (c2 (c2 (c2 (c1 (c1 (c2 (c2 (c2 b99)))))))), .inLoop (c1 (c1 (c2 (c2 (c2 b99))))), .inBlock 0] [(0, .ref 10000 0), (2, .sl Ty.sHangFate a0), (3, .sl Ty.sApiStep a1), (5, .ref 5 0), (9, .int .i64 a2), (10, .ref 10 0), (11, .ref 11 0), (58, .sl Ty.sApiValue a3), (59, .int .i64 a4), (60, .int .i64 a5)] [(11, .cells 121 [.bool a6, .str a7, .int .i64 a8]), (10, .cells 29 [.int .i64 a9.kind, .int .i64 a9.frm, .int .i64 a9.to, .str a9.text, .sl Ty.sApiValue a9.items, .sl Ty.str a9.names]), (5, .cells 29 [.int .i64 a10.kind, .int .i64 a10.frm, .int .i64 a10.to, .str a10.text, .sl Ty.sApiValue a10.items, .sl Ty.str a10.names]), (10000, .cells 160 [.int .i64 a11, .sl Ty.sApiSegment a12, .mf 5 3054]), (3054, .arr 85 Ty.sHangHit a13)] (fun z σ' => z = .tup [] ∧ σ' = [(20000, .arr 85 Ty.sHangHit r.out), (10000, .cells 160 [.int .i64 r.number, .sl Ty.sApiSegment r.q, .mf 5 20000])])
theorem w99 : ∀ (l : L99) (r : HangWalker), f99 l = some r → M99 l r := f99.partial_correctness M99 (by
 intro f ih l r h
 cases l with
 | e99 a0 a1 a2 a3 =>
  intro w F ρ
  dsimp only at h
  refine ak_seq ?_
  refine ak_regionS (.cons rfl (ok_box (d := 5) (dlt rfl rfl) rfl rfl rfl rfl rfl) (.nil ?_))
  refine ak_seq ?_
  refine ak_seq ?_
  obtain ⟨v1, hv1, h⟩ := bind_of h
  refine ak_regionS (.cons rfl (ok_move (dlt rfl rfl) rfl rfl) (.cons rfl (ok_move (dlt rfl rfl) rfl rfl) (.cons rfl (ok_nilCheckV (dlt rfl rfl) rfl rfl) (.cons rfl (ok_fieldV (dlt rfl rfl) rfl fo160_1 ty24 (by decide) rfl) (.cons rfl (ok_loadV (dlt rfl rfl) rfl ty24 rfl rfl rfl) (.cons rfl (ok_lenS (τ := Ty.sApiSegment) (xs := a0.q) (dlt rfl rfl) rfl Tryz.underlying24 rfl) (.cons rfl (ok_indexS (τ := Ty.sHangFate) (x := v1) (dlt rfl rfl) rfl Tryz.underlying142 ty67 rfl rfl rfl (idx_0 hv1) (idx_1 hv1)) (.cons rfl (ok_loadRT (dlt rfl rfl) rfl ty67 rfl (by decide) rfl) (.cons rfl (ok_alloc (d := 8) (dlt rfl rfl) rfl ty67 rfl rfl rfl) (.cons rfl (ok_storeV rfl rfl ty67 rfl rfl rfl rfl (by decide) rfl rfl) (.nil ?_)))))))))))
  refine ak_seq ?_
  refine ak_regionS (.cons rfl (ok_fieldV (dlt rfl rfl) rfl fo67_0 ty4 (by decide) rfl) (.cons rfl (ok_loadV (dlt rfl rfl) rfl ty4 rfl rfl rfl) (.cons rfl (ok_move (dlt rfl rfl) rfl rfl) (.consG (pre := []) (dlt rfl rfl) rfl rfl rfl rfl .nil (fun he => ok_fieldV (dlt rfl rfl) rfl fo67_1 ty3 (by decide) rfl) (.consG (pre := [(23, .ref 8 1)]) (dlt rfl rfl) rfl rfl rfl rfl (.cons rfl (fun he => he) .nil) (fun he => ok_loadV (dlt rfl rfl) rfl ty3 rfl rfl rfl) (.consG (pre := [(24, .int .i64 v1.holds)]) (dlt rfl rfl) rfl rfl rfl rfl (.cons rfl (fun he => he) .nil) (fun he => ok_neq (dlt rfl rfl) rfl rfl rfl) (.cons rfl (ok_andW (dlt rfl rfl) rfl rfl rfl (fun h => h)) (.cons rfl (ok_move (dlt rfl rfl) rfl rfl) (.consG (pre := []) (dlt rfl rfl) rfl rfl rfl rfl .nil (fun he => ok_fieldV (dlt rfl rfl) rfl fo29_2 ty3 (by decide) rfl) (.consG (pre := [(28, .ref 5 2)]) (dlt rfl rfl) rfl rfl rfl rfl (.cons rfl (fun he => he) .nil) (fun he => ok_loadV (dlt rfl rfl) rfl ty3 rfl rfl rfl) (.consG (pre := [(29, .int .i64 a1.to)]) (dlt rfl rfl) rfl rfl rfl rfl (.cons rfl (fun he => he) .nil) (fun he => ok_neq (dlt rfl rfl) rfl rfl rfl) (.cons rfl (ok_andW (dlt rfl rfl) rfl rfl rfl (fun h => h)) (.nil ?_)))))))))))))
  refine ak_cond rfl (fun ht => ?_) (fun ht => ?_)
  ·have h := cond_t ht h
   obtain ⟨v2, hv2, h⟩ := bind_of h
   obtain ⟨v3, hv3, h⟩ := bind_of h
   refine ak_drawL [⟨some 32, [(0, .ref 10000 0)], none, true, .ref 10000 0, [], []⟩,
  ⟨some 33, [(0, .ref 10000 0)], none, true, .ref 10000 0, [], []⟩,
  ⟨some 34, [(33, .ref 10000 0)], none, true, .ref 10000 0, [], []⟩,
  ⟨some 35, [(34, .ref 10000 0)], none, true, .ref 10000 2, [], []⟩,
  ⟨some 36, [(35, .ref 10000 2)], none, true, .mf 5 20000, [(10000, .cells 160 [.int .i64 a0.number, .sl Ty.sApiSegment a0.q, .mf 5 20000])], []⟩,
  ⟨some 37, [(0, .ref 10000 0)], none, true, .ref 10000 0, [], []⟩,
  ⟨some 38, [(37, .ref 10000 0)], none, true, .ref 10000 0, [], []⟩,
  ⟨some 39, [(38, .ref 10000 0)], none, true, .ref 10000 0, [], []⟩,
  ⟨some 40, [(39, .ref 10000 0)], none, true, .int .i64 a0.number, [(10000, .cells 160 [.int .i64 a0.number, .sl Ty.sApiSegment a0.q, .mf 5 20000])], []⟩,
  ⟨some 41, [(3, .sl Ty.sApiStep a3)], none, true, .sl Ty.sApiStep a3, [], []⟩,
  ⟨some 42, [(41, .sl Ty.sApiStep a3)], none, true, .sl Ty.sApiStep v2, [], []⟩,
  ⟨some 43, [(5, .ref 5 0)], none, true, .ref 5 1, [], []⟩,
  ⟨some 44, [(43, .ref 5 1)], none, true, .int .i64 a1.frm, [(5, .cells 29 [.int .i64 a1.kind, .int .i64 a1.frm, .int .i64 a1.to, .str a1.text, .sl Ty.sApiValue a1.items, .sl Ty.str a1.names])], []⟩,
  ⟨some 45, [(5, .ref 5 0)], none, true, .ref 5 2, [], []⟩,
  ⟨some 46, [(45, .ref 5 2)], none, true, .int .i64 a1.to, [(5, .cells 29 [.int .i64 a1.kind, .int .i64 a1.frm, .int .i64 a1.to, .str a1.text, .sl Ty.sApiValue a1.items, .sl Ty.str a1.names])], []⟩,
  ⟨some 47, [(5, .ref 5 0)], none, true, .ref 5 2, [], []⟩,
  ⟨some 48, [(47, .ref 5 2)], none, true, .int .i64 a1.to, [(5, .cells 29 [.int .i64 a1.kind, .int .i64 a1.frm, .int .i64 a1.to, .str a1.text, .sl Ty.sApiValue a1.items, .sl Ty.str a1.names])], []⟩,
  ⟨some 49, [(8, .ref 8 0)], none, true, .ref 8 1, [], []⟩,
  ⟨some 50, [(49, .ref 8 1)], none, true, .int .i64 v1.holds, [(8, .cells 67 [.bool v1.may, .int .i64 v1.holds, .int .i64 v1.fails])], []⟩,
  ⟨some 51, [(48, .int .i64 a1.to), (50, .int .i64 v1.holds)], none, true, .int .i64 (gmax a1.to v1.holds), [], []⟩,
  ⟨some 52, [(40, .int .i64 a0.number), (42, .sl Ty.sApiStep v2), (44, .int .i64 a1.frm), (46, .int .i64 a1.to), (51, .int .i64 (gmax a1.to v1.holds))], none, true, .agg [.int .i64 a0.number, .sl Ty.sApiStep v2, .int .i64 a1.frm, .int .i64 a1.to, .int .i64 (gmax a1.to v1.holds)], [], []⟩,
  ⟨some 53, [(52, .agg [.int .i64 a0.number, .sl Ty.sApiStep v2, .int .i64 a1.frm, .int .i64 a1.to, .int .i64 (gmax a1.to v1.holds)])], none, true, .sf Ty.sHangHit ([(⟨a0.number, v2, a1.frm, a1.to, gmax a1.to v1.holds⟩ : HangHit)] : List HangHit), [], []⟩,
  ⟨some 54, [(36, .mf 5 20000), (53, .sf Ty.sHangHit ([(⟨a0.number, v2, a1.frm, a1.to, gmax a1.to v1.holds⟩ : HangHit)] : List HangHit))], none, true, .mf 5 3054, [(20000, .arr 85 Ty.sHangHit a0.out)], [(3054, .arr 85 Ty.sHangHit (a0.out ++ ([(⟨a0.number, v2, a1.frm, a1.to, gmax a1.to v1.holds⟩ : HangHit)] : List HangHit))), (20000, .dead)]⟩,
  ⟨some 55, [(32, .ref 10000 0)], none, true, .ref 10000 0, [], []⟩,
  ⟨some 56, [(55, .ref 10000 0)], none, true, .ref 10000 2, [], []⟩,
  ⟨none, [(56, .ref 10000 2), (54, .mf 5 3054)], none, true, .undef, [(10000, .cells 160 [.int .i64 a0.number, .sl Ty.sApiSegment a0.q, .mf 5 20000])], [(10000, .cells 160 [.int .i64 a0.number, .sl Ty.sApiSegment a0.q, .mf 5 3054])]⟩] [[], [], [1], [1, 2], [1, 2, 3], [], [5], [5, 6], [5, 6, 7], [], [9], [], [11], [], [13], [], [15], [], [17], [15, 16, 17, 18], [5, 6, 7, 8, 9, 10, 11, 12, 13, 14, 15, 16, 17, 18, 19], [5, 6, 7, 8, 9, 10, 11, 12, 13, 14, 15, 16, 17, 18, 19, 20], [1, 2, 3, 4, 5, 6, 7, 8, 9, 10, 11, 12, 13, 14, 15, 16, 17, 18, 19, 20, 21], [0, 1, 2, 3, 4, 5, 6, 7, 8, 9, 10, 11, 12, 13, 14, 15, 16, 17, 18, 19, 20, 21, 22], [0, 1, 2, 3, 4, 5, 6, 7, 8, 9, 10, 11, 12, 13, 14, 15, 16, 17, 18, 19, 20, 21, 22, 23], [0, 1, 2, 3, 4, 5, 6, 7, 8, 9, 10, 11, 12, 13, 14, 15, 16, 17, 18, 19, 20, 21, 22, 23, 24]] (by kernel_rfl) (by kernel_rfl) (.cons (qok (dlt rfl rfl) rfl (.same rfl .nil) (NeedQ.all .nil) (fun Γx σx => ok_move (dlt rfl rfl) rfl rfl)) (.cons (qok (dlt rfl rfl) rfl (.same rfl .nil) (NeedQ.all .nil) (fun Γx σx => ok_move (dlt rfl rfl) rfl rfl)) (.cons (qok (dlt rfl rfl) rfl (.same rfl .nil) (NeedQ.all .nil) (fun Γx σx => ok_nilCheckV (dlt rfl rfl) rfl rfl)) (.cons (qok (dlt rfl rfl) rfl (.same rfl .nil) (NeedQ.all .nil) (fun Γx σx => ok_fieldV (dlt rfl rfl) rfl fo160_2 ty80 (by decide) rfl)) (.cons (qok (dlt rfl rfl) rfl (.same rfl .nil) (NeedQ.all (.cons rfl .nil)) (fun Γx σx => ok_loadV (dlt rfl rfl) rfl ty80 rfl rfl rfl)) (.cons (qok (dlt rfl rfl) rfl (.same rfl .nil) (NeedQ.all .nil) (fun Γx σx => ok_move (dlt rfl rfl) rfl rfl)) (.cons (qok (dlt rfl rfl) rfl (.same rfl .nil) (NeedQ.all .nil) (fun Γx σx => ok_nilCheckV (dlt rfl rfl) rfl rfl)) (.cons (qok (dlt rfl rfl) rfl (.same rfl .nil) (NeedQ.all .nil) (fun Γx σx => ok_fieldV (dlt rfl rfl) rfl fo160_0 ty3 (by decide) rfl)) (.cons (qok (dlt rfl rfl) rfl (.same rfl .nil) (NeedQ.all (.cons rfl .nil)) (fun Γx σx => ok_loadV (dlt rfl rfl) rfl ty3 rfl rfl rfl)) (.cons (qok (dlt rfl rfl) rfl (.same rfl .nil) (NeedQ.all .nil) (fun Γx σx => ok_move (dlt rfl rfl) rfl rfl)) (.cons (qok (dlt rfl rfl) rfl (.same rfl .nil) (NeedQ.all .nil) (fun Γx σx => ok_call (xs := [.sl Ty.sApiStep a3]) (caps := []) (dlt rfl rfl) rfl rfl Tryz.func65 rfl rfl rfl (d65 hv2) rfl)) (.cons (qok (dlt rfl rfl) rfl (.same rfl .nil) (NeedQ.all .nil) (fun Γx σx => ok_fieldV (dlt rfl rfl) rfl fo29_1 ty3 (by decide) rfl)) (.cons (qok (dlt rfl rfl) rfl (.same rfl .nil) (NeedQ.all (.cons rfl .nil)) (fun Γx σx => ok_loadV (dlt rfl rfl) rfl ty3 rfl rfl rfl)) (.cons (qok (dlt rfl rfl) rfl (.same rfl .nil) (NeedQ.all .nil) (fun Γx σx => ok_fieldV (dlt rfl rfl) rfl fo29_2 ty3 (by decide) rfl)) (.cons (qok (dlt rfl rfl) rfl (.same rfl .nil) (NeedQ.all (.cons rfl .nil)) (fun Γx σx => ok_loadV (dlt rfl rfl) rfl ty3 rfl rfl rfl)) (.cons (qok (dlt rfl rfl) rfl (.same rfl .nil) (NeedQ.all .nil) (fun Γx σx => ok_fieldV (dlt rfl rfl) rfl fo29_2 ty3 (by decide) rfl)) (.cons (qok (dlt rfl rfl) rfl (.same rfl .nil) (NeedQ.all (.cons rfl .nil)) (fun Γx σx => ok_loadV (dlt rfl rfl) rfl ty3 rfl rfl rfl)) (.cons (qok (dlt rfl rfl) rfl (.same rfl .nil) (NeedQ.all .nil) (fun Γx σx => ok_fieldV (dlt rfl rfl) rfl fo67_1 ty3 (by decide) rfl)) (.cons (qok (dlt rfl rfl) rfl (.same rfl .nil) (NeedQ.all (.cons rfl .nil)) (fun Γx σx => ok_loadV (dlt rfl rfl) rfl ty3 rfl rfl rfl)) (.cons (qok (dlt rfl rfl) rfl (.same rfl (.same rfl .nil)) (NeedQ.all .nil) (fun Γx σx => ok_max (dlt rfl rfl) rfl rfl rfl)) (.cons (qok (dlt rfl rfl) rfl (.same rfl (.same rfl (.same rfl (.same rfl (.same rfl .nil))))) (NeedQ.all .nil) (fun Γx σx => ok_build (dlt rfl rfl) rfl ty85 rfl pl85 rfl rfl rfl)) (.cons (qok (dlt rfl rfl) rfl (.same rfl .nil) (NeedQ.all .nil) (fun Γx σx => ok_lit (τ := Ty.sHangHit) (dlt rfl rfl) ([(⟨a0.number, v2, a1.frm, a1.to, gmax a1.to v1.holds⟩ : HangHit)] : List HangHit) rfl Tryz.underlying80 ty85 rfl rfl rfl rfl rfl (by decide) (by decide) rfl)) (.cons (qokN (dlt rfl rfl) rfl (.same rfl (.same rfl .nil)) (NeedQ.all (.cons rfl .nil)) (fresh1 rfl rfl rfl) (fun Γx σx hfr => ok_appendL (τ := Ty.sHangHit) (r := 20000) (xs := a0.out) (ys := ([(⟨a0.number, v2, a1.frm, a1.to, gmax a1.to v1.holds⟩ : HangHit)] : List HangHit)) (dlt rfl rfl) 3054 rfl Tryz.underlying80 ty85 rfl rfl rfl rfl (fun F ρ ac w _ h => src_sf h) (room_1 hv3) (room_2 hv3) (noM_app rfl (fresh2 rfl hfr).1) (noMH_app rfl (fresh2 rfl hfr).2))) (.cons (qok (dlt rfl rfl) rfl (.same rfl .nil) (NeedQ.all .nil) (fun Γx σx => ok_nilCheckV (dlt rfl rfl) rfl rfl)) (.cons (qok (dlt rfl rfl) rfl (.same rfl .nil) (NeedQ.all .nil) (fun Γx σx => ok_fieldV (dlt rfl rfl) rfl fo160_2 ty80 (by decide) rfl)) (.cons (qokN (nodst rfl) rfl (.same rfl (.same rfl .nil)) (NeedQ.all (.cons rfl .nil)) (fresh0 rfl) (fun Γx σx hfr => ok_storeV rfl rfl ty80 rfl rfl rfl rfl (by decide) rfl rfl)) (.nil _ _))))))))))))))))))))))))))) (.nil ?_)
   exact ak_conv (.cons rfl (.refl _) (.cons rfl (.refl _) (.cons rfl (.refl _) (.cons rfl (.refl _) (.nil _))))) (.cons rfl (.refl _) (.cons rfl (.refl _) (.cons rfl (.refl _) (.nil _)))) (ih _ _ h w F ρ _)
  ·have h := cond_f ht h
   refine ak_skip ?_
   refine ak_conv (Γ' := [(0, .ref 10000 0), (2, .sl Ty.sHangFate a2), (3, .sl Ty.sApiStep a3), (5, .ref 5 0)]) (σ' := [(5, .cells 29 [.int .i64 a1.kind, .int .i64 a1.frm, .int .i64 a1.to, .str a1.text, .sl Ty.sApiValue a1.items, .sl Ty.str a1.names]), (10000, .cells 160 [.int .i64 a0.number, .sl Ty.sApiSegment a0.q, .mf 5 20000]), (20000, .arr 85 Ty.sHangHit a0.out)]) (.cons rfl (.refl _) (.cons rfl (.refl _) (.cons rfl (.refl _) (.cons rfl (.refl _) (.nil _))))) (.cons rfl (.refl _) (.cons rfl (.refl _) (.cons rfl (.refl _) (.nil _)))) ?_
   refine ak_ren 20000 3054 rfl rfl rfl rfl ?_
   exact ak_conv (.cons rfl (.refl _) (.cons rfl (.refl _) (.cons rfl (.refl _) (.cons rfl (.refl _) (.nil _))))) (.cons rfl (.refl _) (.cons rfl (.refl _) (.cons rfl (.refl _) (.nil _)))) (ih _ _ h w F ρ _)
 | l99_0 a0 a1 a2 a3 a4 a5 =>
  intro w F ρ S
  dsimp only at h
  refine ak_seq ?_
  refine ak_regionS (.cons rfl (ok_fieldV (dlt rfl rfl) rfl fo29_4 ty26 (by decide) rfl) (.cons rfl (ok_loadV (dlt rfl rfl) rfl ty26 rfl rfl rfl) (.cons rfl (ok_lenS (τ := Ty.sApiValue) (xs := a2.items) (dlt rfl rfl) rfl Tryz.underlying26 rfl) (.cons rfl (ok_move (dlt rfl rfl) rfl rfl) (.nil ?_)))))
  refine ak_block ?_
  refine ak_loop ?_
  exact ak_conv (.cons rfl (.refl _) (.cons rfl (.refl _) (.cons rfl (.refl _) (.cons rfl (.refl _) (.cons rfl (.refl _) (.cons rfl (.refl _) (.cons rfl (.refl _) (.nil _)))))))) (.cons rfl (.refl _) (.cons rfl (.refl _) (.cons rfl (.refl _) (.nil _)))) (ih _ _ h w F ρ _)
 | l99_1 a0 a1 a2 a3 a4 a5 a6 a7 a8 =>
  intro w F ρ S
  dsimp only at h
  refine ak_seq ?_
  refine ak_regionS (.cons rfl (ok_lss (dlt rfl rfl) rfl rfl rfl) (.nil ?_))
  refine ak_seq ?_
  refine ak_cond rfl (fun ht => ?_) (fun ht => ?_)
  ·have h := cond_t ht h
   refine ak_skip ?_
   refine ak_seq ?_
   refine ak_block ?_
   refine ak_seq ?_
   obtain ⟨v4, hv4, h⟩ := bind_of h
   refine ak_regionS (.cons rfl (ok_move (dlt rfl rfl) rfl rfl) (.cons rfl (ok_indexS (τ := Ty.sApiValue) (x := v4) (dlt rfl rfl) rfl Tryz.underlying26 ty29 rfl rfl rfl (idx_0 hv4) (idx_1 hv4)) (.cons rfl (ok_loadRT (dlt rfl rfl) rfl ty29 rfl (by decide) rfl) (.cons rfl (ok_alloc (d := 10) (dlt rfl rfl) rfl ty29 rfl rfl rfl) (.cons rfl (ok_assign (dlt rfl rfl) rfl rfl) (.cons rfl (ok_storeV rfl rfl ty29 rfl rfl rfl rfl (by decide) rfl rfl) (.nil ?_)))))))
   refine ak_seq ?_
   refine ak_regionS (.cons rfl (ok_move (dlt rfl rfl) rfl rfl) (.cons rfl (ok_build (dlt rfl rfl) rfl ty121 rfl pl121 rfl rfl rfl) (.cons rfl (ok_alloc (d := 11) (dlt rfl rfl) rfl ty121 rfl rfl rfl) (.cons rfl (ok_storeV rfl rfl ty121 rfl rfl rfl rfl (by decide) rfl rfl) (.nil ?_)))))
   refine ak_seq ?_
   refine ak_seq ?_
   refine ak_regionS (.cons rfl (ok_fieldV (dlt rfl rfl) rfl fo29_0 ty3 (by decide) rfl) (.cons rfl (ok_loadV (dlt rfl rfl) rfl ty3 rfl rfl rfl) (.cons rfl (ok_eql (dlt rfl rfl) rfl rfl rfl) (.nil ?_))))
   refine ak_cond rfl (fun ht => ?_) (fun ht => ?_)
   ·have h := cond_t ht h
    exact no_of h
   ·have h := cond_f ht h
    refine ak_skip ?_
    exact ak_conv (.cons rfl (.refl _) (.cons rfl (.refl _) (.cons rfl (.refl _) (.cons rfl (.refl _) (.cons rfl (.refl _) (.cons rfl (.refl _) (.cons rfl (.refl _) (.cons rfl (.refl _) (.cons rfl (.refl _) (.cons rfl (.refl _) (.nil _))))))))))) (.cons rfl (.refl _) (.cons rfl (.refl _) (.cons rfl (.refl _) (.cons rfl (.refl _) (.cons rfl (.refl _) (.nil _)))))) (ih _ _ h w F ρ _)
  ·have h := cond_f ht h
   refine ak_exit rfl ?_
   obtain rfl := Option.some.inj h
   refine ak_conv (Γ' := []) (σ' := [(10000, .cells 160 [.int .i64 a6, .sl Ty.sApiSegment a7, .mf 5 3054]), (3054, .arr 85 Ty.sHangHit a8)]) (.nil _) (.cons rfl (.refl _) (.cons rfl (.refl _) (.nil _))) ?_
   refine ak_ren 3054 20000 rfl rfl rfl rfl ?_
   refine ak_conv (Γ' := []) (σ' := [(20000, .arr 85 Ty.sHangHit a8), (10000, .cells 160 [.int .i64 ((⟨a6, a7, a8⟩ : HangWalker).number), .sl Ty.sApiSegment ((⟨a6, a7, a8⟩ : HangWalker).q), .mf 5 20000])]) (.nil _) (.cons rfl (.refl _) (.cons rfl (.cells (.cons (.refl _) (.cons (.refl _) (.cons (.refl _) (.nil))))) (.nil _))) ?_
   exact ak_endC (fn := Tryz.f99) [(20000, .arr 85 Ty.sHangHit a8), (10000, .cells 160 [.int .i64 ((⟨a6, a7, a8⟩ : HangWalker).number), .sl Ty.sApiSegment ((⟨a6, a7, a8⟩ : HangWalker).q), .mf 5 20000])] (.cons rfl (.refl _) (.cons rfl (.refl _) (.nil _))) Tryz.func99 rfl trivial ⟨rfl, rfl⟩
 | l99_2 a0 a1 a2 a3 a4 a5 a6 a7 a8 a9 a10 a11 a12 a13 =>
  intro w F ρ S
  dsimp only at h
  obtain ⟨v5, hv5, h⟩ := bind_of h
  obtain ⟨v6, hv6, h⟩ := bind_of h
  obtain ⟨v7, hv7, h⟩ := bind_of h
  obtain ⟨v8, hv8, h⟩ := bind_of h
  refine ak_drawL [⟨some 76, [(0, .ref 10000 0)], none, true, .ref 10000 0, [], []⟩,
  ⟨some 77, [(10, .ref 10 0)], none, true, .agg [.int .i64 a9.kind, .int .i64 a9.frm, .int .i64 a9.to, .str a9.text, .sl Ty.sApiValue a9.items, .sl Ty.str a9.names], [(10, .cells 29 [.int .i64 a9.kind, .int .i64 a9.frm, .int .i64 a9.to, .str a9.text, .sl Ty.sApiValue a9.items, .sl Ty.str a9.names])], []⟩,
  ⟨some 78, [(5, .ref 5 0)], none, true, .agg [.int .i64 a10.kind, .int .i64 a10.frm, .int .i64 a10.to, .str a10.text, .sl Ty.sApiValue a10.items, .sl Ty.str a10.names], [(5, .cells 29 [.int .i64 a10.kind, .int .i64 a10.frm, .int .i64 a10.to, .str a10.text, .sl Ty.sApiValue a10.items, .sl Ty.str a10.names])], []⟩,
  ⟨some 79, [(9, .int .i64 a2)], none, true, .int .i64 a2, [], []⟩,
  ⟨some 80, [(0, .ref 10000 0)], none, true, .ref 10000 0, [], []⟩,
  ⟨some 81, [(80, .ref 10000 0)], none, true, .ref 10000 0, [], []⟩,
  ⟨some 82, [(81, .ref 10000 0)], none, true, .ref 10000 1, [], []⟩,
  ⟨some 83, [(82, .ref 10000 1)], none, true, .sl Ty.sApiSegment a12, [(10000, .cells 160 [.int .i64 a11, .sl Ty.sApiSegment a12, .mf 5 3054])], []⟩,
  ⟨some 84, [(2, .sl Ty.sHangFate a0)], none, true, .sl Ty.sHangFate a0, [], []⟩,
  ⟨some 85, [(78, .agg [.int .i64 a10.kind, .int .i64 a10.frm, .int .i64 a10.to, .str a10.text, .sl Ty.sApiValue a10.items, .sl Ty.str a10.names]), (79, .int .i64 a2), (83, .sl Ty.sApiSegment a12), (84, .sl Ty.sHangFate a0)], none, true, .sl Ty.sHangFate v5, [], []⟩,
  ⟨some 86, [(3, .sl Ty.sApiStep a1)], none, true, .sl Ty.sApiStep a1, [], []⟩,
  ⟨some 87, [(3, .sl Ty.sApiStep a1)], none, true, .sl Ty.sApiStep a1, [], []⟩,
  ⟨some 88, [(87, .sl Ty.sApiStep a1)], none, true, .int .i64 (a1.length : Int), [], []⟩,
  ⟨some 89, [(3, .sl Ty.sApiStep a1)], none, true, .sl Ty.sApiStep a1, [], []⟩,
  ⟨some 90, [(89, .sl Ty.sApiStep a1)], none, true, .int .i64 (a1.length : Int), [], []⟩,
  ⟨some 91, [(86, .sl Ty.sApiStep a1), (88, .int .i64 (a1.length : Int)), (90, .int .i64 (a1.length : Int))], none, true, .sf Ty.sApiStep a1, [], []⟩,
  ⟨some 92, [(11, .ref 11 0)], none, true, .agg [.bool a6, .str a7, .int .i64 a8], [(11, .cells 121 [.bool a6, .str a7, .int .i64 a8])], []⟩,
  ⟨some 93, [(92, .agg [.bool a6, .str a7, .int .i64 a8])], none, true, .sf Ty.sApiStep ([(⟨a6, a7, a8⟩ : ApiStep)] : List ApiStep), [], []⟩,
  ⟨some 94, [(91, .sf Ty.sApiStep a1), (93, .sf Ty.sApiStep ([(⟨a6, a7, a8⟩ : ApiStep)] : List ApiStep))], none, true, .sl Ty.sApiStep (a1 ++ ([(⟨a6, a7, a8⟩ : ApiStep)] : List ApiStep)), [], []⟩,
  ⟨some 95, [(76, .ref 10000 0), (77, .agg [.int .i64 a9.kind, .int .i64 a9.frm, .int .i64 a9.to, .str a9.text, .sl Ty.sApiValue a9.items, .sl Ty.str a9.names]), (85, .sl Ty.sHangFate v5), (94, .sl Ty.sApiStep (a1 ++ ([(⟨a6, a7, a8⟩ : ApiStep)] : List ApiStep)))], none, true, .tup [], [(10000, .cells 160 [.int .i64 a11, .sl Ty.sApiSegment a12, .mf 5 3054]), (3054, .arr 85 Ty.sHangHit a13)], [(3054, .dead), (4095, .arr 85 Ty.sHangHit v8.out), (10000, .cells 160 [.int .i64 v8.number, .sl Ty.sApiSegment v8.q, .mf 5 4095])]⟩] [[], [], [], [], [], [4], [4, 5], [4, 5, 6], [], [2, 3, 4, 5, 6, 7, 8], [], [], [11], [], [13], [10, 11, 12, 13, 14], [], [16], [2, 3, 4, 5, 6, 7, 8, 9, 10, 11, 12, 13, 14, 15, 16, 17], [0, 1, 2, 3, 4, 5, 6, 7, 8, 9, 10, 11, 12, 13, 14, 15, 16, 17, 18]] (by kernel_rfl) (by kernel_rfl) (.cons (qok (dlt rfl rfl) rfl (.same rfl .nil) (NeedQ.all .nil) (fun Γx σx => ok_move (dlt rfl rfl) rfl rfl)) (.cons (qok (dlt rfl rfl) rfl (.same rfl .nil) (NeedQ.all (.cons rfl .nil)) (fun Γx σx => ok_loadVT (dlt rfl rfl) rfl ty29 rfl rfl (by decide) rfl)) (.cons (qok (dlt rfl rfl) rfl (.same rfl .nil) (NeedQ.all (.cons rfl .nil)) (fun Γx σx => ok_loadVT (dlt rfl rfl) rfl ty29 rfl rfl (by decide) rfl)) (.cons (qok (dlt rfl rfl) rfl (.same rfl .nil) (NeedQ.all .nil) (fun Γx σx => ok_move (dlt rfl rfl) rfl rfl)) (.cons (qok (dlt rfl rfl) rfl (.same rfl .nil) (NeedQ.all .nil) (fun Γx σx => ok_move (dlt rfl rfl) rfl rfl)) (.cons (qok (dlt rfl rfl) rfl (.same rfl .nil) (NeedQ.all .nil) (fun Γx σx => ok_nilCheckV (dlt rfl rfl) rfl rfl)) (.cons (qok (dlt rfl rfl) rfl (.same rfl .nil) (NeedQ.all .nil) (fun Γx σx => ok_fieldV (dlt rfl rfl) rfl fo160_1 ty24 (by decide) rfl)) (.cons (qok (dlt rfl rfl) rfl (.same rfl .nil) (NeedQ.all (.cons rfl .nil)) (fun Γx σx => ok_loadV (dlt rfl rfl) rfl ty24 rfl rfl rfl)) (.cons (qok (dlt rfl rfl) rfl (.same rfl .nil) (NeedQ.all .nil) (fun Γx σx => ok_move (dlt rfl rfl) rfl rfl)) (.cons (qok (dlt rfl rfl) rfl (.same rfl (.same rfl (.same rfl (.same rfl .nil)))) (NeedQ.all .nil) (fun Γx σx => ok_call (xs := [.agg [.int .i64 a10.kind, .int .i64 a10.frm, .int .i64 a10.to, .str a10.text, .sl Ty.sApiValue a10.items, .sl Ty.str a10.names], .int .i64 a2, .sl Ty.sApiSegment a12, .sl Ty.sHangFate a0]) (caps := []) (dlt rfl rfl) rfl rfl Tryz.func85 rfl rfl rfl (d85 hv5) rfl)) (.cons (qok (dlt rfl rfl) rfl (.same rfl .nil) (NeedQ.all .nil) (fun Γx σx => ok_move (dlt rfl rfl) rfl rfl)) (.cons (qok (dlt rfl rfl) rfl (.same rfl .nil) (NeedQ.all .nil) (fun Γx σx => ok_move (dlt rfl rfl) rfl rfl)) (.cons (qok (dlt rfl rfl) rfl (.same rfl .nil) (NeedQ.all .nil) (fun Γx σx => ok_lenS (τ := Ty.sApiStep) (xs := a1) (dlt rfl rfl) rfl Tryz.underlying38 rfl)) (.cons (qok (dlt rfl rfl) rfl (.same rfl .nil) (NeedQ.all .nil) (fun Γx σx => ok_move (dlt rfl rfl) rfl rfl)) (.cons (qok (dlt rfl rfl) rfl (.same rfl .nil) (NeedQ.all .nil) (fun Γx σx => ok_lenS (τ := Ty.sApiStep) (xs := a1) (dlt rfl rfl) rfl Tryz.underlying38 rfl)) (.cons (qok (dlt rfl rfl) rfl (.same rfl (.same rfl (.same rfl .nil))) (NeedQ.all .nil) (fun Γx σx => ok_full (dlt rfl rfl) rfl Tryz.underlying38 ty121 rfl rfl rfl rfl (need_of hv6).1 (need_of hv6).2)) (.cons (qok (dlt rfl rfl) rfl (.same rfl .nil) (NeedQ.all (.cons rfl .nil)) (fun Γx σx => ok_loadVT (dlt rfl rfl) rfl ty121 rfl rfl (by decide) rfl)) (.cons (qok (dlt rfl rfl) rfl (.same rfl .nil) (NeedQ.all .nil) (fun Γx σx => ok_lit (τ := Ty.sApiStep) (dlt rfl rfl) ([(⟨a6, a7, a8⟩ : ApiStep)] : List ApiStep) rfl Tryz.underlying38 ty121 rfl rfl rfl rfl rfl (by decide) (by decide) rfl)) (.cons (qok (dlt rfl rfl) rfl (.same rfl (.same rfl .nil)) (NeedQ.all .nil) (fun Γx σx => ok_appendNew (dlt rfl rfl) rfl Tryz.underlying38 ty121 rfl rfl (fun F ρ ac w _ h => src_sf h) (room_1 hv7) (room_2 hv7))) (.cons (qokN (dlt rfl rfl) rfl (.same rfl (.same rfl (.same rfl (.same rfl .nil)))) (NeedQ.all (.cons rfl (.cons rfl .nil))) (frAll rfl) (fun Γx σx hfr => ok_callL (xs := [.ref 10000 0, .agg [.int .i64 a9.kind, .int .i64 a9.frm, .int .i64 a9.to, .str a9.text, .sl Ty.sApiValue a9.items, .sl Ty.str a9.names], .sl Ty.sHangFate v5, .sl Ty.sApiStep (a1 ++ ([(⟨a6, a7, a8⟩ : ApiStep)] : List ApiStep))]) (caps := []) (xs1 := [.ref 10000 0, .agg [.int .i64 a9.kind, .int .i64 a9.frm, .int .i64 a9.to, .str a9.text, .sl Ty.sApiValue a9.items, .sl Ty.str a9.names], .sl Ty.sHangFate v5, .sl Ty.sApiStep (a1 ++ ([(⟨a6, a7, a8⟩ : ApiStep)] : List ApiStep))]) (z := .tup []) (ups := [(3054, .dead), (4095, .arr 85 Ty.sHangHit v8.out), (10000, .cells 160 [.int .i64 v8.number, .sl Ty.sApiSegment v8.q, .mf 5 4095])]) (dlt rfl rfl) [(20000, (3054, none)), (10000, (10000, some (0, 3)))] [(20000, (4095, none))] rfl rfl Tryz.func99 rfl rfl rfl (.cons (.refl _) (.cons (.refl _) (.cons (.refl _) (.cons (.refl _) (.nil))))) (.cons (.ref rfl rfl) (.cons (.same rfl) (.cons (.same rfl) (.cons (.same rfl) (.nil))))) (.arr rfl (.cells rfl rfl (by decide) rfl (.cons (.refl _) (.cons (.refl _) (.cons (.refl _) (.nil)))) (.cons (.same rfl) (.cons (.same rfl) (.cons (.mf rfl) (.nil)))) .nil)) rfl (fn_of (fn := Tryz.f99) Tryz.func99 rfl Tryz.ntmps99 rfl (ih _ _ hv8)) (.dead (l := 20000) rfl rfl (.newA (l := 20000) rfl rfl (.cells (l := 10000) rfl rfl rfl rfl (.cons (.same rfl) (.cons (.same rfl) (.cons (.mf rfl) (.nil)))) (Nat.succ_ne_zero _) rfl .nil))) rfl rfl rfl (frQ rfl rfl hfr) rfl (.same rfl))) (.nil _ _))))))))))))))))))))) (.nil ?_)
  refine ak_inBlock ?_
  refine ak_regionS (.cons rfl (ok_add (dlt rfl rfl) rfl rfl rfl) (.cons rfl (ok_move (dlt rfl rfl) rfl rfl) (.nil ?_)))
  refine ak_inLoop ?_
  refine ak_conv (Γ' := [(0, .ref 10000 0), (2, .sl Ty.sHangFate a0), (3, .sl Ty.sApiStep a1), (5, .ref 5 0), (58, .sl Ty.sApiValue a3), (59, .int .i64 a4), (60, .int .i64 (IntKind.wrap .i64 (a5 + (1 : Int))))]) (σ' := [(5, .cells 29 [.int .i64 a10.kind, .int .i64 a10.frm, .int .i64 a10.to, .str a10.text, .sl Ty.sApiValue a10.items, .sl Ty.str a10.names]), (10000, .cells 160 [.int .i64 v8.number, .sl Ty.sApiSegment v8.q, .mf 5 4095]), (4095, .arr 85 Ty.sHangHit v8.out)]) (.cons rfl (.refl _) (.cons rfl (.refl _) (.cons rfl (.refl _) (.cons rfl (.refl _) (.cons rfl (.refl _) (.cons rfl (.refl _) (.cons rfl (.refl _) (.nil _)))))))) (.cons rfl (.refl _) (.cons rfl (.refl _) (.cons rfl (.refl _) (.nil _)))) ?_
  refine ak_ren 4095 3054 rfl rfl rfl rfl ?_
  exact ak_conv (.cons rfl (.refl _) (.cons rfl (.refl _) (.cons rfl (.refl _) (.cons rfl (.refl _) (.cons rfl (.refl _) (.cons rfl (.refl _) (.cons rfl (.refl _) (.nil _)))))))) (.cons rfl (.refl _) (.cons rfl (.refl _) (.cons rfl (.refl _) (.nil _)))) (ih _ _ h w F ρ _))
theorem d99 {a0 : HangWalker} {a1 : ApiValue} {a2 : List HangFate} {a3 : List ApiStep} {r : HangWalker} (h : f99 (.e99 a0 a1 a2 a3) = some r) : Does Tryz.prog GG 99 [.ref 10000 0, .agg [.int .i64 a1.kind, .int .i64 a1.frm, .int .i64 a1.to, .str a1.text, .sl Ty.sApiValue a1.items, .sl Ty.str a1.names], .sl Ty.sHangFate a2, .sl Ty.sApiStep a3] [(20000, .arr 85 Ty.sHangHit a0.out), (10000, .cells 160 [.int .i64 a0.number, .sl Ty.sApiSegment a0.q, .mf 5 20000])] (fun z σ' => z = .tup [] ∧ σ' = [(20000, .arr 85 Ty.sHangHit r.out), (10000, .cells 160 [.int .i64 r.number, .sl Ty.sApiSegment r.q, .mf 5 20000])]) := fn_of (fn := Tryz.f99) Tryz.func99 rfl Tryz.ntmps99 rfl (w99 _ _ h)
end Go.Proofs.YtonlbdholdaifaaGreatDoor
end
section
set_option linter.unusedVariables false
set_option linter.unusedSimpArgs false
set_option maxRecDepth 10000
namespace Go.Proofs.YtonlbdholdaifaaGreatDoor
open Go Go.Rf Go.Proofs
/-- cmp.isNaN[int] -/
noncomputable abbrev b116 : Code := codeOf Tryz.f116
inductive L116 where
 | e116 (a0 : Int)
noncomputable def f116 : L116 → Option Bool
 | .e116 a0 =>
  none
def M116 : L116 → Bool → Prop
 | .e116 a0, r => ∀ (w : World) (F : Nat → Prop) (ρ : Rho), AK Tryz.prog (ctx GG 6 w F ρ []) 116 [.code b116] (argE 0 [.int .i64 a0]) [] (fun z _ => z = .bool r)
theorem w116 : ∀ (l : L116) (r : Bool), f116 l = some r → M116 l r := (by
 intro l r h
 cases l with
 | e116 a0 =>
  intro w F ρ
  dsimp only [f116] at h
  exact no_of h)
theorem d116 {a0 : Int} {r : Bool} (h : f116 (.e116 a0) = some r) : Does Tryz.prog GG 116 [.int .i64 a0] [] (fun z _ => z = .bool r) := fn_of (fn := Tryz.f116) Tryz.func116 rfl Tryz.ntmps116 rfl (w116 _ _ h)
/-- cmp.Compare[int] -/
noncomputable abbrev b62 : Code := codeOf Tryz.f62
inductive L62 where
 | e62 (a0 : Int) (a1 : Int)
noncomputable def f62 : L62 → Option Int
 | .e62 a0 a1 =>
  none
def M62 : L62 → Int → Prop
 | .e62 a0 a1, r => ∀ (w : World) (F : Nat → Prop) (ρ : Rho), AK Tryz.prog (ctx GG 20 w F ρ []) 62 [.code b62] (argE 0 [.int .i64 a0, .int .i64 a1]) [] (fun z _ => z = .int .i64 r)
theorem w62 : ∀ (l : L62) (r : Int), f62 l = some r → M62 l r := (by
 intro l r h
 cases l with
 | e62 a0 a1 =>
  intro w F ρ
  dsimp only [f62] at h
  exact no_of h)
theorem d62 {a0 : Int} {a1 : Int} {r : Int} (h : f62 (.e62 a0 a1) = some r) : Does Tryz.prog GG 62 [.int .i64 a0, .int .i64 a1] [] (fun z _ => z = .int .i64 r) := fn_of (fn := Tryz.f62) Tryz.func62 rfl Tryz.ntmps62 rfl (w62 _ _ h)
/-- cmp.Or[int] -/
noncomputable abbrev b102 : Code := codeOf Tryz.f102
inductive L102 where
 | e102 (a0 : List Int)
noncomputable def f102 : L102 → Option Int
 | .e102 a0 =>
  none
def M102 : L102 → Int → Prop
 | .e102 a0, r => ∀ (w : World) (F : Nat → Prop) (ρ : Rho), AK Tryz.prog (ctx GG 18 w F ρ []) 102 [.code b102] (argE 0 [.sl Ty.i64 a0]) [] (fun z _ => z = .int .i64 r)
theorem w102 : ∀ (l : L102) (r : Int), f102 l = some r → M102 l r := (by
 intro l r h
 cases l with
 | e102 a0 =>
  intro w F ρ
  dsimp only [f102] at h
  exact no_of h)
theorem d102 {a0 : List Int} {r : Int} (h : f102 (.e102 a0) = some r) : Does Tryz.prog GG 102 [.sl Ty.i64 a0] [] (fun z _ => z = .int .i64 r) := fn_of (fn := Tryz.f102) Tryz.func102 rfl Tryz.ntmps102 rfl (w102 _ _ h)
/-- riffle/hang.Hits$1 -/
noncomputable abbrev b101 : Code := codeOf Tryz.f101
inductive L101 where
 | e101 (a0 : HangHit) (a1 : HangHit)
noncomputable def f101 : L101 → Option Int
 | .e101 a0 a1 =>
  none
def M101 : L101 → Int → Prop
 | .e101 a0 a1, r => ∀ (w : World) (F : Nat → Prop) (ρ : Rho), AK Tryz.prog (ctx GG 17 w F ρ []) 101 [.code b101] (argE 0 [.agg [.int .i64 a0.query, .sl Ty.sApiStep a0.steps, .int .i64 a0.frm, .int .i64 a0.to, .int .i64 a0.ready], .agg [.int .i64 a1.query, .sl Ty.sApiStep a1.steps, .int .i64 a1.frm, .int .i64 a1.to, .int .i64 a1.ready]]) [] (fun z _ => z = .int .i64 r)
theorem w101 : ∀ (l : L101) (r : Int), f101 l = some r → M101 l r := (by
 intro l r h
 cases l with
 | e101 a0 a1 =>
  intro w F ρ
  dsimp only [f101] at h
  exact no_of h)
theorem d101 {a0 : HangHit} {a1 : HangHit} {r : Int} (h : f101 (.e101 a0 a1) = some r) : Does Tryz.prog GG 101 [.agg [.int .i64 a0.query, .sl Ty.sApiStep a0.steps, .int .i64 a0.frm, .int .i64 a0.to, .int .i64 a0.ready], .agg [.int .i64 a1.query, .sl Ty.sApiStep a1.steps, .int .i64 a1.frm, .int .i64 a1.to, .int .i64 a1.ready]] [] (fun z _ => z = .int .i64 r) := fn_of (fn := Tryz.f101) Tryz.func101 rfl Tryz.ntmps101 rfl (w101 _ _ h)
/-- slices.insertionSortCmpFunc[riffle/hang.Hit] -/
noncomputable abbrev b190_101 : Code := codeOf Tryz.f190
inductive L190_101 where
 | e190_101 (a0 : List HangHit) (a1 : Int) (a2 : Int)
 | l190_101_0 (a0 : Int) (a1 : Int) (a2 : Int) (a3 : List HangHit)
noncomputable def f190_101 : L190_101 → Option (List HangHit)
 | .e190_101 a0 a1 a2 =>
  f190_101 (.l190_101_0 a1 a2 (IntKind.wrap .i64 (a1 + (1 : Int))) a0)
 | .l190_101_0 a0 a1 a2 a3 =>
  if (decide (a2 < a1)) = true then
   none
  else
   some a3
 partial_fixpoint
def M190_101 : L190_101 → (List HangHit) → Prop
 | .e190_101 a0 a1 a2, r => ∀ (w : World) (F : Nat → Prop) (ρ : Rho), AK Tryz.prog (ctx GG 53 w F ρ [(10000, .arr 85 Ty.sHangHit a0)]) 190 [.code b190_101] (argE 0 [.mf 5 10000, .int .i64 a1, .int .i64 a2, .fn 101 []]) [(10000, .arr 85 Ty.sHangHit a0)] (fun z σ' => z = .tup [] ∧ σ' = [(10000, .arr 85 Ty.sHangHit r)])
 | .l190_101_0 a0 a1 a2 a3, r => ∀ (w : World) (F : Nat → Prop) (ρ : Rho) (S : Nat → Prop), AK Tryz.prog (ctxL GG 53 w F ρ S [10000]) 190 [.code (c1 (c1 (c2 b190_101))), .inLoop (c1 (c1 (c2 b190_101))), .inBlock 0] [(0, .mf 5 10000), (1, .int .i64 a0), (2, .int .i64 a1), (3, .fn 101 []), (8, .int .i64 a2)] [(10000, .arr 85 Ty.sHangHit a3)] (fun z σ' => z = .tup [] ∧ σ' = [(10000, .arr 85 Ty.sHangHit r)])
theorem w190_101 : ∀ (l : L190_101) (r : List HangHit), f190_101 l = some r → M190_101 l r := f190_101.partial_correctness M190_101 (by
 intro f ih l r h
 cases l with
 | e190_101 a0 a1 a2 =>
  intro w F ρ
  dsimp only at h
  refine ak_seq ?_
  refine ak_regionS (.cons rfl (ok_move (dlt rfl rfl) rfl rfl) (.cons rfl (ok_add (dlt rfl rfl) rfl rfl rfl) (.cons rfl (ok_assign (dlt rfl rfl) rfl rfl) (.nil ?_))))
  refine ak_block ?_
  refine ak_loop ?_
  exact ak_conv (.cons rfl (.refl _) (.cons rfl (.refl _) (.cons rfl (.refl _) (.cons rfl (.refl _) (.cons rfl (.refl _) (.nil _)))))) (.cons rfl (.refl _) (.nil _)) (ih _ _ h w F ρ _)
 | l190_101_0 a0 a1 a2 a3 =>
  intro w F ρ S
  dsimp only at h
  refine ak_seq ?_
  refine ak_seq ?_
  refine ak_regionS (.cons rfl (ok_move (dlt rfl rfl) rfl rfl) (.cons rfl (ok_move (dlt rfl rfl) rfl rfl) (.cons rfl (ok_lss (dlt rfl rfl) rfl rfl rfl) (.nil ?_))))
  refine ak_cond rfl (fun ht => ?_) (fun ht => ?_)
  ·have h := cond_t ht h
   exact no_of h
  ·have h := cond_f ht h
   refine ak_exit rfl ?_
   obtain rfl := Option.some.inj h
   refine ak_conv (Γ' := []) (σ' := [(10000, .arr 85 Ty.sHangHit a3)]) (.nil _) (.cons rfl (.refl _) (.nil _)) ?_
   exact ak_endC (fn := Tryz.f190) [(10000, .arr 85 Ty.sHangHit a3)] (.cons rfl (.refl _) (.nil _)) Tryz.func190 rfl trivial ⟨rfl, rfl⟩)
theorem d190_101 {a0 : List HangHit} {a1 : Int} {a2 : Int} {r : List HangHit} (h : f190_101 (.e190_101 a0 a1 a2) = some r) : Does Tryz.prog GG 190 [.mf 5 10000, .int .i64 a1, .int .i64 a2, .fn 101 []] [(10000, .arr 85 Ty.sHangHit a0)] (fun z σ' => z = .tup [] ∧ σ' = [(10000, .arr 85 Ty.sHangHit r)]) := fn_of (fn := Tryz.f190) Tryz.func190 rfl Tryz.ntmps190 rfl (w190_101 _ _ h)
/-- slices.swapRangeCmpFunc[riffle/hang.Hit] -/
noncomputable abbrev b238_101 : Code := codeOf Tryz.f238
inductive L238_101 where
 | e238_101 (a0 : List HangHit) (a1 : Int) (a2 : Int) (a3 : Int)
noncomputable def f238_101 : L238_101 → Option (List HangHit)
 | .e238_101 a0 a1 a2 a3 =>
  none
def M238_101 : L238_101 → (List HangHit) → Prop
 | .e238_101 a0 a1 a2 a3, r => ∀ (w : World) (F : Nat → Prop) (ρ : Rho), AK Tryz.prog (ctx GG 38 w F ρ [(10000, .arr 85 Ty.sHangHit a0)]) 238 [.code b238_101] (argE 0 [.mf 5 10000, .int .i64 a1, .int .i64 a2, .int .i64 a3, .fn 101 []]) [(10000, .arr 85 Ty.sHangHit a0)] (fun z σ' => z = .tup [] ∧ σ' = [(10000, .arr 85 Ty.sHangHit r)])
theorem w238_101 : ∀ (l : L238_101) (r : List HangHit), f238_101 l = some r → M238_101 l r := (by
 intro l r h
 cases l with
 | e238_101 a0 a1 a2 a3 =>
  intro w F ρ
  dsimp only [f238_101] at h
  exact no_of h)
theorem d238_101 {a0 : List HangHit} {a1 : Int} {a2 : Int} {a3 : Int} {r : List HangHit} (h : f238_101 (.e238_101 a0 a1 a2 a3) = some r) : Does Tryz.prog GG 238 [.mf 5 10000, .int .i64 a1, .int .i64 a2, .int .i64 a3, .fn 101 []] [(10000, .arr 85 Ty.sHangHit a0)] (fun z σ' => z = .tup [] ∧ σ' = [(10000, .arr 85 Ty.sHangHit r)]) := fn_of (fn := Tryz.f238) Tryz.func238 rfl Tryz.ntmps238 rfl (w238_101 _ _ h)
/-- slices.rotateCmpFunc[riffle/hang.Hit] -/
noncomputable abbrev b215_101 : Code := codeOf Tryz.f215
inductive L215_101 where
 | e215_101 (a0 : List HangHit) (a1 : Int) (a2 : Int) (a3 : Int)
noncomputable def f215_101 : L215_101 → Option (List HangHit)
 | .e215_101 a0 a1 a2 a3 =>
  none
def M215_101 : L215_101 → (List HangHit) → Prop
 | .e215_101 a0 a1 a2 a3, r => ∀ (w : World) (F : Nat → Prop) (ρ : Rho), AK Tryz.prog (ctx GG 58 w F ρ [(10000, .arr 85 Ty.sHangHit a0)]) 215 [.code b215_101] (argE 0 [.mf 5 10000, .int .i64 a1, .int .i64 a2, .int .i64 a3, .fn 101 []]) [(10000, .arr 85 Ty.sHangHit a0)] (fun z σ' => z = .tup [] ∧ σ' = [(10000, .arr 85 Ty.sHangHit r)])
theorem w215_101 : ∀ (l : L215_101) (r : List HangHit), f215_101 l = some r → M215_101 l r := (by
 intro l r h
 cases l with
 | e215_101 a0 a1 a2 a3 =>
  intro w F ρ
  dsimp only [f215_101] at h
  exact no_of h)
theorem d215_101 {a0 : List HangHit} {a1 : Int} {a2 : Int} {a3 : Int} {r : List HangHit} (h : f215_101 (.e215_101 a0 a1 a2 a3) = some r) : Does Tryz.prog GG 215 [.mf 5 10000, .int .i64 a1, .int .i64 a2, .int .i64 a3, .fn 101 []] [(10000, .arr 85 Ty.sHangHit a0)] (fun z σ' => z = .tup [] ∧ σ' = [(10000, .arr 85 Ty.sHangHit r)]) := fn_of (fn := Tryz.f215) Tryz.func215 rfl Tryz.ntmps215 rfl (w215_101 _ _ h)
/-- slices.symMergeCmpFunc[riffle/hang.Hit] -/
noncomputable abbrev b191_101 : Code := codeOf Tryz.f191
inductive L191_101 where
 | e191_101 (a0 : List HangHit) (a1 : Int) (a2 : Int) (a3 : Int)
noncomputable def f191_101 : L191_101 → Option (List HangHit)
 | .e191_101 a0 a1 a2 a3 =>
  none
def M191_101 : L191_101 → (List HangHit) → Prop
 | .e191_101 a0 a1 a2 a3, r => ∀ (w : World) (F : Nat → Prop) (ρ : Rho), AK Tryz.prog (ctx GG 220 w F ρ [(10000, .arr 85 Ty.sHangHit a0)]) 191 [.code b191_101] (argE 0 [.mf 5 10000, .int .i64 a1, .int .i64 a2, .int .i64 a3, .fn 101 []]) [(10000, .arr 85 Ty.sHangHit a0)] (fun z σ' => z = .tup [] ∧ σ' = [(10000, .arr 85 Ty.sHangHit r)])
theorem w191_101 : ∀ (l : L191_101) (r : List HangHit), f191_101 l = some r → M191_101 l r := (by
 intro l r h
 cases l with
 | e191_101 a0 a1 a2 a3 =>
  intro w F ρ
  dsimp only [f191_101] at h
  exact no_of h)
theorem d191_101 {a0 : List HangHit} {a1 : Int} {a2 : Int} {a3 : Int} {r : List HangHit} (h : f191_101 (.e191_101 a0 a1 a2 a3) = some r) : Does Tryz.prog GG 191 [.mf 5 10000, .int .i64 a1, .int .i64 a2, .int .i64 a3, .fn 101 []] [(10000, .arr 85 Ty.sHangHit a0)] (fun z σ' => z = .tup [] ∧ σ' = [(10000, .arr 85 Ty.sHangHit r)]) := fn_of (fn := Tryz.f191) Tryz.func191 rfl Tryz.ntmps191 rfl (w191_101 _ _ h)
/-- slices.stableCmpFunc[riffle/hang.Hit] -/
noncomputable abbrev b145_101 : Code := codeOf Tryz.f145
inductive L145_101 where
 | e145_101 (a0 : List HangHit) (a1 : Int)
 | l145_101_0 (a0 : Int) (a1 : Int) (a2 : Int) (a3 : Int) (a4 : List HangHit)
 | l145_101_1 (a0 : Int) (a1 : Int) (a2 : List HangHit)
noncomputable def f145_101 : L145_101 → Option (List HangHit)
 | .e145_101 a0 a1 =>
  f145_101 (.l145_101_0 a1 (20 : Int) (0 : Int) (20 : Int) a0)
 | .l145_101_0 a0 a1 a2 a3 a4 =>
  if (decide (a3 ≤ a0)) = true then
   none
  else
   f190_101 (.e190_101 a4 a2 a0) >>= fun v1 =>
   f145_101 (.l145_101_1 a0 a1 v1)
 | .l145_101_1 a0 a1 a2 =>
  if (decide (a1 < a0)) = true then
   none
  else
   some a2
 partial_fixpoint
def M145_101 : L145_101 → (List HangHit) → Prop
 | .e145_101 a0 a1, r => ∀ (w : World) (F : Nat → Prop) (ρ : Rho), AK Tryz.prog (ctx GG 63 w F ρ [(10000, .arr 85 Ty.sHangHit a0)]) 145 [.code b145_101] (argE 0 [.mf 5 10000, .int .i64 a1, .fn 101 []]) [(10000, .arr 85 Ty.sHangHit a0)] (fun z σ' => z = .tup [] ∧ σ' = [(10000, .arr 85 Ty.sHangHit r)])
 | .l145_101_0 a0 a1 a2 a3 a4, r => ∀ (w : World) (F : Nat → Prop) (ρ : Rho) (S : Nat → Prop), AK Tryz.prog (ctxL GG 63 w F ρ S [10000]) 145 [.code (c1 (c1 (c1 (c2 (c2 b145_101))))), .inLoop (c1 (c1 (c1 (c2 (c2 b145_101))))), .inBlock 0, .code (c2 (c2 (c2 b145_101)))] [(0, .mf 5 10000), (1, .int .i64 a0), (2, .fn 101 []), (6, .int .i64 a1), (7, .int .i64 a2), (8, .int .i64 a3)] [(10000, .arr 85 Ty.sHangHit a4)] (fun z σ' => z = .tup [] ∧ σ' = [(10000, .arr 85 Ty.sHangHit r)])
 | .l145_101_1 a0 a1 a2, r => ∀ (w : World) (F : Nat → Prop) (ρ : Rho) (S : Nat → Prop), AK Tryz.prog (ctxL GG 63 w F ρ S [10000]) 145 [.code (c1 (c1 (c2 (c2 (c2 (c2 b145_101)))))), .inLoop (c1 (c1 (c2 (c2 (c2 (c2 b145_101)))))), .inBlock 2] [(0, .mf 5 10000), (1, .int .i64 a0), (2, .fn 101 []), (6, .int .i64 a1)] [(10000, .arr 85 Ty.sHangHit a2)] (fun z σ' => z = .tup [] ∧ σ' = [(10000, .arr 85 Ty.sHangHit r)])
theorem w145_101 : ∀ (l : L145_101) (r : List HangHit), f145_101 l = some r → M145_101 l r := f145_101.partial_correctness M145_101 (by
 intro f ih l r h
 cases l with
 | e145_101 a0 a1 =>
  intro w F ρ
  dsimp only at h
  refine ak_seq ?_
  refine ak_regionS (.cons rfl (ok_assign (dlt rfl rfl) rfl rfl) (.nil ?_))
  refine ak_seq ?_
  refine ak_regionS (.cons rfl (ok_move (dlt rfl rfl) rfl rfl) (.cons rfl (ok_assign (dlt rfl rfl) rfl rfl) (.cons rfl (ok_assign (dlt rfl rfl) rfl rfl) (.nil ?_))))
  refine ak_seq ?_
  refine ak_block ?_
  refine ak_loop ?_
  exact ak_conv (.cons rfl (.refl _) (.cons rfl (.refl _) (.cons rfl (.refl _) (.cons rfl (.refl _) (.cons rfl (.refl _) (.cons rfl (.refl _) (.nil _))))))) (.cons rfl (.refl _) (.nil _)) (ih _ _ h w F ρ _)
 | l145_101_0 a0 a1 a2 a3 a4 =>
  intro w F ρ S
  dsimp only at h
  refine ak_seq ?_
  refine ak_seq ?_
  refine ak_regionS (.cons rfl (ok_move (dlt rfl rfl) rfl rfl) (.cons rfl (ok_move (dlt rfl rfl) rfl rfl) (.cons rfl (ok_leq (dlt rfl rfl) rfl rfl rfl) (.nil ?_))))
  refine ak_cond rfl (fun ht => ?_) (fun ht => ?_)
  ·have h := cond_t ht h
   exact no_of h
  ·have h := cond_f ht h
   refine ak_exit rfl ?_
   refine ak_seq ?_
   obtain ⟨v1, hv1, h⟩ := bind_of h
   refine ak_regionS (.cons rfl (ok_move (dlt rfl rfl) rfl rfl) (.cons rfl (ok_move (dlt rfl rfl) rfl rfl) (.cons rfl (ok_move (dlt rfl rfl) rfl rfl) (.cons rfl (ok_move (dlt rfl rfl) rfl rfl) (.cons rfl (ok_callL (xs := [.mf 5 10000, .int .i64 a2, .int .i64 a0, .fn 101 []]) (caps := []) (xs1 := [.mf 5 10000, .int .i64 a2, .int .i64 a0, .fn 101 []]) (z := .tup []) (ups := [(10000, .arr 85 Ty.sHangHit v1)]) (dlt rfl rfl) [(10000, (10000, none))] [] rfl rfl Tryz.func190 rfl rfl rfl (.cons (.refl _) (.cons (.refl _) (.cons (.refl _) (.cons (.refl _) (.nil))))) (.cons (.mf rfl) (.cons (.same rfl) (.cons (.same rfl) (.cons (.same rfl) (.nil))))) (.arr rfl .nil) rfl (d190_101 hv1) (.arr (l := 10000) rfl rfl rfl .nil) rfl rfl rfl (by intro d h; simp at h) rfl (.same rfl)) (.nil ?_))))))
   refine ak_block ?_
   refine ak_loop ?_
   exact ak_conv (.cons rfl (.refl _) (.cons rfl (.refl _) (.cons rfl (.refl _) (.cons rfl (.refl _) (.nil _))))) (.cons rfl (.refl _) (.nil _)) (ih _ _ h w F ρ _)
 | l145_101_1 a0 a1 a2 =>
  intro w F ρ S
  dsimp only at h
  refine ak_seq ?_
  refine ak_seq ?_
  refine ak_regionS (.cons rfl (ok_move (dlt rfl rfl) rfl rfl) (.cons rfl (ok_move (dlt rfl rfl) rfl rfl) (.cons rfl (ok_lss (dlt rfl rfl) rfl rfl rfl) (.nil ?_))))
  refine ak_cond rfl (fun ht => ?_) (fun ht => ?_)
  ·have h := cond_t ht h
   exact no_of h
  ·have h := cond_f ht h
   refine ak_exit rfl ?_
   obtain rfl := Option.some.inj h
   refine ak_conv (Γ' := []) (σ' := [(10000, .arr 85 Ty.sHangHit a2)]) (.nil _) (.cons rfl (.refl _) (.nil _)) ?_
   exact ak_endC (fn := Tryz.f145) [(10000, .arr 85 Ty.sHangHit a2)] (.cons rfl (.refl _) (.nil _)) Tryz.func145 rfl trivial ⟨rfl, rfl⟩)
theorem d145_101 {a0 : List HangHit} {a1 : Int} {r : List HangHit} (h : f145_101 (.e145_101 a0 a1) = some r) : Does Tryz.prog GG 145 [.mf 5 10000, .int .i64 a1, .fn 101 []] [(10000, .arr 85 Ty.sHangHit a0)] (fun z σ' => z = .tup [] ∧ σ' = [(10000, .arr 85 Ty.sHangHit r)]) := fn_of (fn := Tryz.f145) Tryz.func145 rfl Tryz.ntmps145 rfl (w145_101 _ _ h)
/-- slices.SortStableFunc[[]riffle/hang.Hit,riffle/hang.Hit] -/
noncomputable abbrev b100_101 : Code := codeOf Tryz.f100
inductive L100_101 where
 | e100_101 (a0 : List HangHit)
noncomputable def f100_101 : L100_101 → Option (List HangHit)
 | .e100_101 a0 =>
  f145_101 (.e145_101 a0 (a0.length : Int)) >>= fun v1 =>
  some v1
def M100_101 : L100_101 → (List HangHit) → Prop
 | .e100_101 a0, r => ∀ (w : World) (F : Nat → Prop) (ρ : Rho), AK Tryz.prog (ctx GG 9 w F ρ [(10000, .arr 85 Ty.sHangHit a0)]) 100 [.code b100_101] (argE 0 [.mf 5 10000, .fn 101 []]) [(10000, .arr 85 Ty.sHangHit a0)] (fun z σ' => z = .tup [] ∧ σ' = [(10000, .arr 85 Ty.sHangHit r)])
theorem w100_101 : ∀ (l : L100_101) (r : List HangHit), f100_101 l = some r → M100_101 l r := (by
 intro l r h
 cases l with
 | e100_101 a0 =>
  intro w F ρ
  dsimp only [f100_101] at h
  obtain ⟨v1, hv1, h⟩ := bind_of h
  refine ak_regionS (.cons rfl (ok_move (dlt rfl rfl) rfl rfl) (.cons rfl (ok_move (dlt rfl rfl) rfl rfl) (.cons rfl (ok_lenA (dlt rfl rfl) rfl Tryz.underlying80 rfl rfl) (.cons rfl (ok_move (dlt rfl rfl) rfl rfl) (.cons rfl (ok_callL (xs := [.mf 5 10000, .int .i64 (a0.length : Int), .fn 101 []]) (caps := []) (xs1 := [.mf 5 10000, .int .i64 (a0.length : Int), .fn 101 []]) (z := .tup []) (ups := [(10000, .arr 85 Ty.sHangHit v1)]) (dlt rfl rfl) [(10000, (10000, none))] [] rfl rfl Tryz.func145 rfl rfl rfl (.cons (.refl _) (.cons (.refl _) (.cons (.refl _) (.nil)))) (.cons (.mf rfl) (.cons (.same rfl) (.cons (.same rfl) (.nil)))) (.arr rfl .nil) rfl (d145_101 hv1) (.arr (l := 10000) rfl rfl rfl .nil) rfl rfl rfl (by intro d h; simp at h) rfl (.same rfl)) (.nil ?_))))))
  obtain rfl := Option.some.inj h
  refine ak_conv (Γ' := []) (σ' := [(10000, .arr 85 Ty.sHangHit v1)]) (.nil _) (.cons rfl (.refl _) (.nil _)) ?_
  exact ak_endC (fn := Tryz.f100) [(10000, .arr 85 Ty.sHangHit v1)] (.cons rfl (.refl _) (.nil _)) Tryz.func100 rfl trivial ⟨rfl, rfl⟩)
theorem d100_101 {a0 : List HangHit} {r : List HangHit} (h : f100_101 (.e100_101 a0) = some r) : Does Tryz.prog GG 100 [.mf 5 10000, .fn 101 []] [(10000, .arr 85 Ty.sHangHit a0)] (fun z σ' => z = .tup [] ∧ σ' = [(10000, .arr 85 Ty.sHangHit r)]) := fn_of (fn := Tryz.f100) Tryz.func100 rfl Tryz.ntmps100 rfl (w100_101 _ _ h)
/-- riffle/hang.Hits -/
noncomputable abbrev b42 : Code := codeOf Tryz.f42
inductive L42 where
 | e42 (a0 : ApiValue) (a1 : List (List ApiSegment))
 | l42_0 (a0 : List (List ApiSegment)) (a1 : Int) (a2 : Int) (a3 : List HangHit) (a4 : ApiValue)
noncomputable def f42 : L42 → Option (List HangHit)
 | .e42 a0 a1 =>
  f42 (.l42_0 a1 (a1.length : Int) (0 : Int) ([] : List HangHit) a0)
 | .l42_0 a0 a1 a2 a3 a4 =>
  if (decide (a2 < a1)) = true then
   idx a0 a2 >>= fun v1 =>
   f82 (.e82 v1) >>= fun v3 =>
   f99 (.e99 (⟨a2, v1, ([] : List HangHit)⟩ : HangWalker) a4 v3 ([] : List ApiStep)) >>= fun v4 =>
   room a3.length v4.out.length 56 >>= fun v5 =>
   f42 (.l42_0 a0 a1 (IntKind.wrap .i64 (a2 + (1 : Int))) (a3 ++ v4.out) a4)
  else
   f100_101 (.e100_101 a3) >>= fun v6 =>
   some v6
 partial_fixpoint
def M42 : L42 → (List HangHit) → Prop
 | .e42 a0 a1, r => ∀ (w : World) (F : Nat → Prop) (ρ : Rho), AK Tryz.prog (ctx GG 35 w F ρ []) 42 [.code b42] (argE 0 [.agg [.int .i64 a0.kind, .int .i64 a0.frm, .int .i64 a0.to, .str a0.text, .sl Ty.sApiValue a0.items, .sl Ty.str a0.names], .sl Ty.lsApiSegment a1]) [] (fun z _ => z = .sl Ty.sHangHit r)
 | .l42_0 a0 a1 a2 a3 a4, r => ∀ (w : World) (F : Nat → Prop) (ρ : Rho), AK Tryz.prog (ctx GG 35 w F ρ []) 42 [.code (c1 (c1 (c2 (c1 (c2 (c2 b42)))))), .inLoop (c1 (c1 (c2 (c1 (c2 (c2 b42)))))), .inBlock 0, .code (c2 (c2 (c2 b42)))] [(2, .ref 2 0), (5, .mf 5 1005), (9, .sl Ty.lsApiSegment a0), (10, .int .i64 a1), (11, .int .i64 a2)] [(1005, .arr 85 Ty.sHangHit a3), (2, .cells 29 [.int .i64 a4.kind, .int .i64 a4.frm, .int .i64 a4.to, .str a4.text, .sl Ty.sApiValue a4.items, .sl Ty.str a4.names])] (fun z _ => z = .sl Ty.sHangHit r)
theorem w42 : ∀ (l : L42) (r : List HangHit), f42 l = some r → M42 l r := f42.partial_correctness M42 (by
 intro f ih l r h
 cases l with
 | e42 a0 a1 =>
  intro w F ρ
  dsimp only at h
  refine ak_seq ?_
  refine ak_regionS (.cons rfl (ok_box (d := 2) (dlt rfl rfl) rfl rfl rfl rfl rfl) (.cons rfl (ok_assign (dlt rfl rfl) rfl rfl) (.nil ?_)))
  refine ak_seq ?_
  refine ak_regionS (.cons rfl (ok_assign (dlt rfl rfl) rfl rfl) (.nil ?_))
  refine ak_nilRow (s := 5) (d := 1005) (e := 85) Ty.sHangHit rfl rfl rfl ?_
  refine ak_seq ?_
  refine ak_seq ?_
  refine ak_regionS (.cons rfl (ok_move (dlt rfl rfl) rfl rfl) (.cons rfl (ok_lenS (τ := Ty.lsApiSegment) (xs := a1) (dlt rfl rfl) rfl Tryz.underlying55 rfl) (.cons rfl (ok_move (dlt rfl rfl) rfl rfl) (.nil ?_))))
  refine ak_block ?_
  refine ak_loop ?_
  exact ak_conv (.cons rfl (.refl _) (.cons rfl (.refl _) (.cons rfl (.refl _) (.cons rfl (.refl _) (.cons rfl (.refl _) (.nil _)))))) (.cons rfl (.refl _) (.cons rfl (.refl _) (.nil _))) (ih _ _ h w F ρ)
 | l42_0 a0 a1 a2 a3 a4 =>
  intro w F ρ
  dsimp only at h
  refine ak_seq ?_
  refine ak_regionS (.cons rfl (ok_lss (dlt rfl rfl) rfl rfl rfl) (.nil ?_))
  refine ak_seq ?_
  refine ak_cond rfl (fun ht => ?_) (fun ht => ?_)
  ·have h := cond_t ht h
   refine ak_skip ?_
   refine ak_seq ?_
   refine ak_block ?_
   refine ak_seq ?_
   obtain ⟨v1, hv1, h⟩ := bind_of h
   refine ak_regionS (.cons rfl (ok_move (dlt rfl rfl) rfl rfl) (.cons rfl (ok_indexS (τ := Ty.lsApiSegment) (x := v1) (dlt rfl rfl) rfl Tryz.underlying55 ty24 rfl rfl rfl (idx_0 hv1) (idx_1 hv1)) (.cons rfl (ok_loadR (dlt rfl rfl) rfl ty24 rfl rfl) (.cons rfl (ok_assign (dlt rfl rfl) rfl rfl) (.cons rfl (ok_assign (dlt rfl rfl) rfl rfl) (.nil ?_))))))
   refine ak_seq ?_
   refine ak_regionS (.cons rfl (ok_move (dlt rfl rfl) rfl rfl) (.cons rfl (ok_move (dlt rfl rfl) rfl rfl) (.cons rfl (ok_build (dlt rfl rfl) rfl ty160 rfl pl160 rfl rfl rfl) (.cons rfl (ok_box (d := 19) (dlt rfl rfl) rfl rfl rfl rfl rfl) (.cons rfl (ok_assign (dlt rfl rfl) rfl rfl) (.nil ?_))))))
   refine ak_seq ?_
   refine ak_nilRowV (r := 19) (i := 2) (d := 5000) (e := 85) Ty.sHangHit rfl rfl rfl rfl rfl ?_
   obtain ⟨v3, hv3, h⟩ := bind_of h
   obtain ⟨v4, hv4, h⟩ := bind_of h
   refine ak_drawL [⟨some 20, [(8, .ref 19 0)], none, true, .ref 19 0, [], []⟩,
  ⟨some 21, [(2, .ref 2 0)], none, true, .agg [.int .i64 a4.kind, .int .i64 a4.frm, .int .i64 a4.to, .str a4.text, .sl Ty.sApiValue a4.items, .sl Ty.str a4.names], [(2, .cells 29 [.int .i64 a4.kind, .int .i64 a4.frm, .int .i64 a4.to, .str a4.text, .sl Ty.sApiValue a4.items, .sl Ty.str a4.names])], []⟩,
  ⟨some 22, [(7, .sl Ty.sApiSegment v1)], none, true, .sl Ty.sApiSegment v1, [], []⟩,
  ⟨some 23, [(22, .sl Ty.sApiSegment v1)], none, true, .sl Ty.sHangFate v3, [], []⟩,
  ⟨some 24, [(20, .ref 19 0), (21, .agg [.int .i64 a4.kind, .int .i64 a4.frm, .int .i64 a4.to, .str a4.text, .sl Ty.sApiValue a4.items, .sl Ty.str a4.names]), (23, .sl Ty.sHangFate v3)], none, true, .tup [], [(19, .cells 160 [.int .i64 a2, .sl Ty.sApiSegment v1, .mf 5 5000]), (5000, .arr 85 Ty.sHangHit ([] : List HangHit))], [(5000, .dead), (4024, .arr 85 Ty.sHangHit v4.out), (19, .cells 160 [.int .i64 v4.number, .sl Ty.sApiSegment v4.q, .mf 5 4024])]⟩] [[], [], [], [2], [0, 1, 2, 3]] (by kernel_rfl) (by kernel_rfl) (.cons (qok (dlt rfl rfl) rfl (.same rfl .nil) (NeedQ.all .nil) (fun Γx σx => ok_move (dlt rfl rfl) rfl rfl)) (.cons (qok (dlt rfl rfl) rfl (.same rfl .nil) (NeedQ.all (.cons rfl .nil)) (fun Γx σx => ok_loadVT (dlt rfl rfl) rfl ty29 rfl rfl (by decide) rfl)) (.cons (qok (dlt rfl rfl) rfl (.same rfl .nil) (NeedQ.all .nil) (fun Γx σx => ok_move (dlt rfl rfl) rfl rfl)) (.cons (qok (dlt rfl rfl) rfl (.same rfl .nil) (NeedQ.all .nil) (fun Γx σx => ok_call (xs := [.sl Ty.sApiSegment v1]) (caps := []) (dlt rfl rfl) rfl rfl Tryz.func82 rfl rfl rfl (d82 hv3) rfl)) (.cons (qokN (dlt rfl rfl) rfl (.same rfl (.same rfl (.same rfl .nil))) (NeedQ.all (.cons rfl (.cons rfl .nil))) (frAll rfl) (fun Γx σx hfr => ok_callL (xs := [.ref 19 0, .agg [.int .i64 a4.kind, .int .i64 a4.frm, .int .i64 a4.to, .str a4.text, .sl Ty.sApiValue a4.items, .sl Ty.str a4.names], .sl Ty.sHangFate v3, .nils]) (caps := []) (xs1 := [.ref 19 0, .agg [.int .i64 a4.kind, .int .i64 a4.frm, .int .i64 a4.to, .str a4.text, .sl Ty.sApiValue a4.items, .sl Ty.str a4.names], .sl Ty.sHangFate v3, .sl Ty.sApiStep ([] : List ApiStep)]) (z := .tup []) (ups := [(5000, .dead), (4024, .arr 85 Ty.sHangHit v4.out), (19, .cells 160 [.int .i64 v4.number, .sl Ty.sApiSegment v4.q, .mf 5 4024])]) (dlt rfl rfl) [(20000, (5000, none)), (10000, (19, some (0, 3)))] [(20000, (4024, none))] rfl rfl Tryz.func99 rfl rfl rfl (.cons (.refl _) (.cons (.refl _) (.cons (.refl _) (.cons (sub_nils Ty.sApiStep) (.nil))))) (.cons (.ref rfl rfl) (.cons (.same rfl) (.cons (.same rfl) (.cons (.same rfl) (.nil))))) (.arr rfl (.cells rfl rfl (by decide) rfl (.cons (.refl _) (.cons (.refl _) (.cons (.refl _) (.nil)))) (.cons (.same rfl) (.cons (.same rfl) (.cons (.mf rfl) (.nil)))) .nil)) rfl (d99 hv4) (.dead (l := 20000) rfl rfl (.newA (l := 20000) rfl rfl (.cells (l := 10000) rfl rfl rfl rfl (.cons (.same rfl) (.cons (.same rfl) (.cons (.mf rfl) (.nil)))) (Nat.succ_ne_zero _) rfl .nil))) rfl rfl rfl (frQ rfl rfl hfr) rfl (.same rfl))) (.nil _ _)))))) (.nil ?_)
   obtain ⟨v5, hv5, h⟩ := bind_of h
   refine ak_regionS (.cons rfl (ok_move (dlt rfl rfl) rfl rfl) (.cons rfl (ok_move (dlt rfl rfl) rfl rfl) (.cons rfl (ok_nilCheckV (dlt rfl rfl) rfl rfl) (.cons rfl (ok_fieldV (dlt rfl rfl) rfl fo160_2 ty80 (by decide) rfl) (.cons rfl (ok_loadV (dlt rfl rfl) rfl ty80 rfl rfl rfl) (.cons rfl (ok_appendA (τ := Ty.sHangHit) (xs := a3) (ys := v4.out) (dlt rfl rfl) rfl Tryz.underlying80 ty85 rfl rfl rfl rfl rfl (room_1 hv5) (room_2 hv5)) (.cons rfl (ok_assign (dlt rfl rfl) rfl rfl) (.nil ?_))))))))
   refine ak_inBlock ?_
   refine ak_regionS (.cons rfl (ok_add (dlt rfl rfl) rfl rfl rfl) (.cons rfl (ok_move (dlt rfl rfl) rfl rfl) (.nil ?_)))
   refine ak_inLoop ?_
   exact ak_conv (.cons rfl (.refl _) (.cons rfl (.refl _) (.cons rfl (.refl _) (.cons rfl (.refl _) (.cons rfl (.refl _) (.nil _)))))) (.cons rfl (.refl _) (.cons rfl (.refl _) (.nil _))) (ih _ _ h w F ρ)
  ·have h := cond_f ht h
   refine ak_exit rfl ?_
   refine ak_seq ?_
   obtain ⟨v6, hv6, h⟩ := bind_of h
   refine ak_regionS (.cons rfl (ok_move (dlt rfl rfl) rfl rfl) (.cons rfl (ok_callL (xs := [.mf 5 1005, .fn 101 []]) (caps := []) (xs1 := [.mf 5 1005, .fn 101 []]) (z := .tup []) (ups := [(1005, .arr 85 Ty.sHangHit v6)]) (dlt rfl rfl) [(10000, (1005, none))] [] rfl rfl Tryz.func100 rfl rfl rfl (.cons (.refl _) (.cons (.refl _) (.nil))) (.cons (.mf rfl) (.cons (.same rfl) (.nil))) (.arr rfl .nil) rfl (d100_101 hv6) (.arr (l := 10000) rfl rfl rfl .nil) rfl rfl rfl (by intro d h; simp at h) rfl (.same rfl)) (.nil ?_)))
   refine ak_seq ?_
   refine ak_regionS (.cons rfl (ok_move (dlt rfl rfl) rfl rfl) (.cons rfl (ok_assign (dlt rfl rfl) rfl rfl) (.nil ?_)))
   obtain rfl := Option.some.inj h
   refine ak_freeze 1005 rfl ?_
   refine ak_conv (Γ' := [(4, .sl Ty.sHangHit v6)]) (σ' := []) (.cons rfl (.refl _) (.nil _)) (.nil _) ?_
   exact ak_ret (fn := Tryz.f42) Tryz.func42 rfl trivial rfl)
theorem d42 {a0 : ApiValue} {a1 : List (List ApiSegment)} {r : List HangHit} (h : f42 (.e42 a0 a1) = some r) : Does Tryz.prog GG 42 [.agg [.int .i64 a0.kind, .int .i64 a0.frm, .int .i64 a0.to, .str a0.text, .sl Ty.sApiValue a0.items, .sl Ty.str a0.names], .sl Ty.lsApiSegment a1] [] (fun z _ => z = .sl Ty.sHangHit r) := fn_of (fn := Tryz.f42) Tryz.func42 rfl Tryz.ntmps42 rfl (w42 _ _ h)
end Go.Proofs.YtonlbdholdaifaaGreatDoor
end
section
set_option linter.unusedVariables false
set_option linter.unusedSimpArgs false
set_option maxRecDepth 10000
namespace Go.Proofs.YtonlbdholdaifaaGreatDoor
open Go Go.Rf Go.Proofs
/-- riffle/rifflelaw17.hangAlive -/
noncomputable abbrev b26 : Code := codeOf Tryz.f26
inductive L26 where
 | e26
noncomputable def f26 : L26 → Option Bool
 | .e26 =>
  f57 (.e57 ([91, 49, 44, 91, 50, 93, 93] : List UInt8) (9 : Int)) >>= fun v1 =>
  f19 (.e19 ([36, 91, 45, 49, 93, 91, 48, 93] : List UInt8)) >>= fun v2 =>
  f42 (.e42 v1.1 ([v2.1] : List (List ApiSegment))) >>= fun v3 =>
  gd ((v3.length : Int) == (1 : Int)) (idx v3 (0 : Int)) >>= fun v4 =>
  gd (((v3.length : Int) == (1 : Int)) && (v4.to == (5 : Int))) (idx v3 (0 : Int)) >>= fun v5 =>
  some ((((v3.length : Int) == (1 : Int)) && (v4.to == (5 : Int))) && (v5.ready == (7 : Int)))
def M26 : L26 → Bool → Prop
 | .e26, r => ∀ (w : World) (F : Nat → Prop) (ρ : Rho), AK Tryz.prog (ctx GG 35 w F ρ []) 26 [.code b26] (argE 0 []) [] (fun z _ => z = .bool r)
theorem w26 : ∀ (l : L26) (r : Bool), f26 l = some r → M26 l r := (by
 intro l r h
 cases l with
 | e26 =>
  intro w F ρ
  dsimp only [f26] at h
  refine ak_seq ?_
  refine ak_regionS (.cons rfl (ok_assign (dlt rfl rfl) rfl rfl) (.nil ?_))
  refine ak_seq ?_
  obtain ⟨v1, hv1, h⟩ := bind_of h
  refine ak_regionS (.cons rfl (ok_call (xs := [.str ([91, 49, 44, 91, 50, 93, 93] : List UInt8), .int .i64 (9 : Int)]) (caps := []) (dlt rfl rfl) rfl rfl Tryz.func57 rfl rfl rfl (d57 hv1) rfl) (.cons rfl (ok_move (dlt rfl rfl) rfl rfl) (.cons rfl (ok_extract (dlt rfl rfl) rfl rfl rfl) (.cons rfl (ok_extract (dlt rfl rfl) rfl rfl rfl) (.cons rfl (ok_alloc (d := 1) (dlt rfl rfl) rfl ty29 rfl rfl rfl) (.cons rfl (ok_alloc (d := 2) (dlt rfl rfl) rfl ty57 rfl rfl rfl) (.cons rfl (ok_storeV rfl rfl ty29 rfl rfl rfl rfl (by decide) rfl rfl) (.cons rfl (ok_storeV rfl rfl ty57 rfl rfl rfl rfl (by decide) rfl rfl) (.nil ?_)))))))))
  refine ak_seq ?_
  obtain ⟨v2, hv2, h⟩ := bind_of h
  refine ak_regionS (.cons rfl (ok_call (xs := [.str ([36, 91, 45, 49, 93, 91, 48, 93] : List UInt8)]) (caps := []) (dlt rfl rfl) rfl rfl Tryz.func19 rfl rfl rfl (d19 hv2) rfl) (.cons rfl (ok_move (dlt rfl rfl) rfl rfl) (.cons rfl (ok_extract (dlt rfl rfl) rfl rfl rfl) (.cons rfl (ok_extract (dlt rfl rfl) rfl rfl rfl) (.cons rfl (ok_assign (dlt rfl rfl) rfl rfl) (.cons rfl (ok_assign (dlt rfl rfl) rfl rfl) (.nil ?_)))))))
  refine ak_seq ?_
  obtain ⟨v3, hv3, h⟩ := bind_of h
  refine ak_regionS (.cons rfl (ok_loadVT (dlt rfl rfl) rfl ty29 rfl rfl (by decide) rfl) (.cons rfl (ok_move (dlt rfl rfl) rfl rfl) (.cons rfl (ok_lit (τ := Ty.lsApiSegment) (dlt rfl rfl) ([v2.1] : List (List ApiSegment)) rfl Tryz.underlying55 ty24 rfl rfl rfl rfl rfl (by decide) (by decide) rfl) (.cons rfl (ok_call (xs := [.agg [.int .i64 v1.1.kind, .int .i64 v1.1.frm, .int .i64 v1.1.to, .str v1.1.text, .sl Ty.sApiValue v1.1.items, .sl Ty.str v1.1.names], .sf Ty.lsApiSegment ([v2.1] : List (List ApiSegment))]) (caps := []) (dlt rfl rfl) rfl rfl Tryz.func42 rfl rfl rfl (Does.sub (d42 hv3) (.cons (.refl _) (.cons (sub_sf Ty.lsApiSegment _) (.nil)))) rfl) (.cons rfl (ok_assign (dlt rfl rfl) rfl rfl) (.nil ?_))))))
  refine ak_seq ?_
  obtain ⟨v4, hv4, h⟩ := bind_of h
  obtain ⟨v5, hv5, h⟩ := bind_of h
  refine ak_regionS (.cons rfl (ok_move (dlt rfl rfl) rfl rfl) (.cons rfl (ok_lenS (τ := Ty.sHangHit) (xs := v3) (dlt rfl rfl) rfl Tryz.underlying80 rfl) (.cons rfl (ok_eql (dlt rfl rfl) rfl rfl rfl) (.cons rfl (ok_move (dlt rfl rfl) rfl rfl) (.consG (pre := []) (dlt rfl rfl) rfl rfl rfl rfl .nil (fun he => ok_move (dlt rfl rfl) rfl rfl) (.consG (pre := [(22, .sl Ty.sHangHit v3)]) (dlt rfl rfl) rfl rfl rfl rfl (.cons rfl (fun he => he) .nil) (fun he => ok_indexS (τ := Ty.sHangHit) (x := v4) (dlt rfl rfl) rfl Tryz.underlying80 ty85 rfl rfl rfl (idx_0 (gd_t hv4 he)) (idx_1 (gd_t hv4 he))) (.consG (pre := [(23, .rp [.int .i64 v4.query, .sl Ty.sApiStep v4.steps, .int .i64 v4.frm, .int .i64 v4.to, .int .i64 v4.ready])]) (dlt rfl rfl) rfl rfl rfl rfl (.cons rfl (fun he => he) .nil) (fun he => ok_fieldR (cs := [.int .i64 v4.query, .sl Ty.sApiStep v4.steps, .int .i64 v4.frm, .int .i64 v4.to, .int .i64 v4.ready]) (dlt rfl rfl) rfl fo85_3 ty3 (by decide) rfl) (.consG (pre := [(24, .rp [.int .i64 v4.to, .int .i64 v4.ready])]) (dlt rfl rfl) rfl rfl rfl rfl (.cons rfl (fun he => he) .nil) (fun he => ok_loadR (dlt rfl rfl) rfl ty3 rfl rfl) (.consG (pre := [(25, .int .i64 v4.to)]) (dlt rfl rfl) rfl rfl rfl rfl (.cons rfl (fun he => he) .nil) (fun he => ok_eql (dlt rfl rfl) rfl rfl rfl) (.cons rfl (ok_andW (dlt rfl rfl) rfl rfl rfl (fun h => h)) (.cons rfl (ok_move (dlt rfl rfl) rfl rfl) (.consG (pre := []) (dlt rfl rfl) rfl rfl rfl rfl .nil (fun he => ok_move (dlt rfl rfl) rfl rfl) (.consG (pre := [(29, .sl Ty.sHangHit v3)]) (dlt rfl rfl) rfl rfl rfl rfl (.cons rfl (fun he => he) .nil) (fun he => ok_indexS (τ := Ty.sHangHit) (x := v5) (dlt rfl rfl) rfl Tryz.underlying80 ty85 rfl rfl rfl (idx_0 (gd_t hv5 he)) (idx_1 (gd_t hv5 he))) (.consG (pre := [(30, .rp [.int .i64 v5.query, .sl Ty.sApiStep v5.steps, .int .i64 v5.frm, .int .i64 v5.to, .int .i64 v5.ready])]) (dlt rfl rfl) rfl rfl rfl rfl (.cons rfl (fun he => he) .nil) (fun he => ok_fieldR (cs := [.int .i64 v5.query, .sl Ty.sApiStep v5.steps, .int .i64 v5.frm, .int .i64 v5.to, .int .i64 v5.ready]) (dlt rfl rfl) rfl fo85_4 ty3 (by decide) rfl) (.consG (pre := [(31, .rp [.int .i64 v5.ready])]) (dlt rfl rfl) rfl rfl rfl rfl (.cons rfl (fun he => he) .nil) (fun he => ok_loadR (dlt rfl rfl) rfl ty3 rfl rfl) (.consG (pre := [(32, .int .i64 v5.ready)]) (dlt rfl rfl) rfl rfl rfl rfl (.cons rfl (fun he => he) .nil) (fun he => ok_eql (dlt rfl rfl) rfl rfl rfl) (.cons rfl (ok_andW (dlt rfl rfl) rfl rfl rfl (fun h => h)) (.cons rfl (ok_assign (dlt rfl rfl) rfl rfl) (.nil ?_)))))))))))))))))))
  obtain rfl := Option.some.inj h
  refine ak_conv (Γ' := [(0, .bool ((((v3.length : Int) == (1 : Int)) && (v4.to == (5 : Int))) && (v5.ready == (7 : Int))))]) (σ' := []) (.cons rfl (.refl _) (.nil _)) (.nil _) ?_
  exact ak_ret (fn := Tryz.f26) Tryz.func26 rfl trivial rfl)
theorem d26 {r : Bool} (h : f26 (.e26) = some r) : Does Tryz.prog GG 26 [] [] (fun z _ => z = .bool r) := fn_of (fn := Tryz.f26) Tryz.func26 rfl Tryz.ntmps26 rfl (w26 _ _ h)
/-- riffle/riffleref15.fits -/
noncomputable abbrev b168 : Code := codeOf Tryz.f168
inductive L168 where
 | e168 (a0 : Int)
noncomputable def f168 : L168 → Option Bool
 | .e168 a0 =>
  some ((decide (a0 ≤ (9007199254740991 : Int))) && (decide ((-9007199254740991) ≤ a0)))
def M168 : L168 → Bool → Prop
 | .e168 a0, r => ∀ (w : World) (F : Nat → Prop) (ρ : Rho), AK Tryz.prog (ctx GG 9 w F ρ []) 168 [.code b168] (argE 0 [.int .i64 a0]) [] (fun z _ => z = .bool r)
theorem w168 : ∀ (l : L168) (r : Bool), f168 l = some r → M168 l r := (by
 intro l r h
 cases l with
 | e168 a0 =>
  intro w F ρ
  dsimp only [f168] at h
  refine ak_seq ?_
  refine ak_regionS (.cons rfl (ok_assign (dlt rfl rfl) rfl rfl) (.nil ?_))
  refine ak_seq ?_
  refine ak_regionS (.cons rfl (ok_move (dlt rfl rfl) rfl rfl) (.cons rfl (ok_leq (dlt rfl rfl) rfl rfl rfl) (.cons rfl (ok_move (dlt rfl rfl) rfl rfl) (.consG (pre := []) (dlt rfl rfl) rfl rfl rfl rfl .nil (fun he => ok_move (dlt rfl rfl) rfl rfl) (.consG (pre := [(6, .int .i64 a0)]) (dlt rfl rfl) rfl rfl rfl rfl (.cons rfl (fun he => he) .nil) (fun he => ok_geq (dlt rfl rfl) rfl rfl rfl) (.cons rfl (ok_andW (dlt rfl rfl) rfl rfl rfl (fun h => h)) (.cons rfl (ok_assign (dlt rfl rfl) rfl rfl) (.nil ?_))))))))
  obtain rfl := Option.some.inj h
  refine ak_conv (Γ' := [(2, .bool ((decide (a0 ≤ (9007199254740991 : Int))) && (decide ((-9007199254740991) ≤ a0))))]) (σ' := []) (.cons rfl (.refl _) (.nil _)) (.nil _) ?_
  exact ak_ret (fn := Tryz.f168) Tryz.func168 rfl trivial rfl)
theorem d168 {a0 : Int} {r : Bool} (h : f168 (.e168 a0) = some r) : Does Tryz.prog GG 168 [.int .i64 a0] [] (fun z _ => z = .bool r) := fn_of (fn := Tryz.f168) Tryz.func168 rfl Tryz.ntmps168 rfl (w168 _ _ h)
/-- riffle/riffleref02.Bad -/
noncomputable abbrev b124 : Code := codeOf Tryz.f124
inductive L124 where
 | e124 (a0 : List UInt8)
 | l124_0 (a0 : List UInt8) (a1 : Int) (a2 : Int)
 | l124_1 (a0 : List UInt8) (a1 : Int) (a2 : Int)
noncomputable def f124 : L124 → Option Int
 | .e124 a0 =>
  f124 (.l124_0 a0 (0 : Int) (0 : Int))
 | .l124_0 a0 a1 a2 =>
  if (decide (a2 < (a0.length : Int))) = true then
   need (0 ≤ a1 ∧ a1 ≤ (IntKind.wrap .i64 (a2 + (1 : Int))) ∧ (IntKind.wrap .i64 (a2 + (1 : Int))) ≤ (a0.length : Int)) >>= fun v1 =>
   f176 (.e176 ((a0.take (IntKind.wrap .i64 (a2 + (1 : Int))).toNat).drop a1.toNat)) >>= fun v2 =>
   if (!v2.1) = true then
    some a2
   else
    if v2.2.1 = true then
     f124 (.l124_1 a0 (IntKind.wrap .i64 (a2 + (1 : Int))) a2)
    else
     f124 (.l124_1 a0 a1 a2)
  else
   if (decide (a1 < (a0.length : Int))) = true then
    some (a0.length : Int)
   else
    some (-1)
 | .l124_1 a0 a1 a2 =>
  f124 (.l124_0 a0 a1 (IntKind.wrap .i64 (a2 + (1 : Int))))
 partial_fixpoint
def M124 : L124 → Int → Prop
 | .e124 a0, r => ∀ (w : World) (F : Nat → Prop) (ρ : Rho), AK Tryz.prog (ctx GG 36 w F ρ []) 124 [.code b124] (argE 0 [.str a0]) [] (fun z _ => z = .int .i64 r)
 | .l124_0 a0 a1 a2, r => ∀ (w : World) (F : Nat → Prop) (ρ : Rho), AK Tryz.prog (ctx GG 36 w F ρ []) 124 [.code (c1 (c1 (c2 (c1 (c2 (c2 b124)))))), .inLoop (c1 (c1 (c2 (c1 (c2 (c2 b124)))))), .inBlock 0, .code (c2 (c2 (c2 b124)))] [(0, .str a0), (3, .int .i64 a1), (4, .int .i64 a2)] [] (fun z _ => z = .int .i64 r)
 | .l124_1 a0 a1 a2, r => ∀ (w : World) (F : Nat → Prop) (ρ : Rho), AK Tryz.prog (ctx GG 36 w F ρ []) 124 [.inBlock 1, .code (c2 (c2 (c1 (c1 (c2 (c1 (c2 (c2 b124)))))))), .inLoop (c1 (c1 (c2 (c1 (c2 (c2 b124)))))), .inBlock 0, .code (c2 (c2 (c2 b124)))] [(0, .str a0), (3, .int .i64 a1), (4, .int .i64 a2)] [] (fun z _ => z = .int .i64 r)
theorem w124 : ∀ (l : L124) (r : Int), f124 l = some r → M124 l r := f124.partial_correctness M124 (by
 intro f ih l r h
 cases l with
 | e124 a0 =>
  intro w F ρ
  dsimp only at h
  refine ak_seq ?_
  refine ak_regionS (.cons rfl (ok_assign (dlt rfl rfl) rfl rfl) (.nil ?_))
  refine ak_seq ?_
  refine ak_regionS (.cons rfl (ok_assign (dlt rfl rfl) rfl rfl) (.nil ?_))
  refine ak_seq ?_
  refine ak_seq ?_
  refine ak_regionS (.cons rfl (ok_assign (dlt rfl rfl) rfl rfl) (.nil ?_))
  refine ak_block ?_
  refine ak_loop ?_
  exact ak_conv (.cons rfl (.refl _) (.cons rfl (.refl _) (.cons rfl (.refl _) (.nil _)))) (.nil _) (ih _ _ h w F ρ)
 | l124_0 a0 a1 a2 =>
  intro w F ρ
  dsimp only at h
  refine ak_seq ?_
  refine ak_seq ?_
  refine ak_regionS (.cons rfl (ok_move (dlt rfl rfl) rfl rfl) (.cons rfl (ok_move (dlt rfl rfl) rfl rfl) (.cons rfl (ok_lenT (s := a0) (dlt rfl rfl) rfl Tryz.underlying9 rfl) (.cons rfl (ok_lss (dlt rfl rfl) rfl rfl rfl) (.nil ?_)))))
  refine ak_cond rfl (fun ht => ?_) (fun ht => ?_)
  ·have h := cond_t ht h
   refine ak_skip ?_
   refine ak_seq ?_
   refine ak_block ?_
   refine ak_seq ?_
   obtain ⟨v1, hv1, h⟩ := bind_of h
   obtain ⟨v2, hv2, h⟩ := bind_of h
   refine ak_regionS (.cons rfl (ok_move (dlt rfl rfl) rfl rfl) (.cons rfl (ok_move (dlt rfl rfl) rfl rfl) (.cons rfl (ok_move (dlt rfl rfl) rfl rfl) (.cons rfl (ok_add (dlt rfl rfl) rfl rfl rfl) (.cons rfl (ok_cutLH (dlt rfl rfl) rfl Tryz.underlying9 rfl rfl rfl (need_of hv1).1 (need_of hv1).2.1 (need_of hv1).2.2) (.cons rfl (ok_call (xs := [.str ((a0.take (IntKind.wrap .i64 (a2 + (1 : Int))).toNat).drop a1.toNat)]) (caps := []) (dlt rfl rfl) rfl rfl Tryz.func176 rfl rfl rfl (d176 hv2) rfl) (.cons rfl (ok_move (dlt rfl rfl) rfl rfl) (.cons rfl (ok_extract (dlt rfl rfl) rfl rfl rfl) (.cons rfl (ok_extract (dlt rfl rfl) rfl rfl rfl) (.cons rfl (ok_extract (dlt rfl rfl) rfl rfl rfl) (.cons rfl (ok_assign (dlt rfl rfl) rfl rfl) (.cons rfl (ok_assign (dlt rfl rfl) rfl rfl) (.cons rfl (ok_assign (dlt rfl rfl) rfl rfl) (.nil ?_))))))))))))))
   refine ak_seq ?_
   refine ak_seq ?_
   refine ak_regionS (.cons rfl (ok_move (dlt rfl rfl) rfl rfl) (.cons rfl (ok_not (dlt rfl rfl) rfl rfl) (.nil ?_)))
   refine ak_cond rfl (fun ht => ?_) (fun ht => ?_)
   ·have h := cond_t ht h
    refine ak_seq ?_
    refine ak_regionS (.cons rfl (ok_move (dlt rfl rfl) rfl rfl) (.cons rfl (ok_assign (dlt rfl rfl) rfl rfl) (.nil ?_)))
    obtain rfl := Option.some.inj h
    refine ak_conv (Γ' := [(2, .int .i64 a2)]) (σ' := []) (.cons rfl (.refl _) (.nil _)) (.nil _) ?_
    exact ak_ret (fn := Tryz.f124) Tryz.func124 rfl trivial rfl
   ·have h := cond_f ht h
    refine ak_skip ?_
    refine ak_seq ?_
    refine ak_regionS (.cons rfl (ok_move (dlt rfl rfl) rfl rfl) (.nil ?_))
    refine ak_cond rfl (fun ht => ?_) (fun ht => ?_)
    ·have h := cond_t ht h
     refine ak_regionS (.cons rfl (ok_move (dlt rfl rfl) rfl rfl) (.cons rfl (ok_add (dlt rfl rfl) rfl rfl rfl) (.cons rfl (ok_assign (dlt rfl rfl) rfl rfl) (.nil ?_))))
     exact ak_conv (.cons rfl (.refl _) (.cons rfl (.refl _) (.cons rfl (.refl _) (.nil _)))) (.nil _) (ih _ _ h w F ρ)
    ·have h := cond_f ht h
     refine ak_skip ?_
     exact ak_conv (.cons rfl (.refl _) (.cons rfl (.refl _) (.cons rfl (.refl _) (.nil _)))) (.nil _) (ih _ _ h w F ρ)
  ·have h := cond_f ht h
   refine ak_exit rfl ?_
   refine ak_seq ?_
   refine ak_seq ?_
   refine ak_regionS (.cons rfl (ok_move (dlt rfl rfl) rfl rfl) (.cons rfl (ok_move (dlt rfl rfl) rfl rfl) (.cons rfl (ok_lenT (s := a0) (dlt rfl rfl) rfl Tryz.underlying9 rfl) (.cons rfl (ok_lss (dlt rfl rfl) rfl rfl rfl) (.nil ?_)))))
   refine ak_cond rfl (fun ht => ?_) (fun ht => ?_)
   ·have h := cond_t ht h
    refine ak_seq ?_
    refine ak_regionS (.cons rfl (ok_move (dlt rfl rfl) rfl rfl) (.cons rfl (ok_lenT (s := a0) (dlt rfl rfl) rfl Tryz.underlying9 rfl) (.cons rfl (ok_assign (dlt rfl rfl) rfl rfl) (.nil ?_))))
    obtain rfl := Option.some.inj h
    refine ak_conv (Γ' := [(2, .int .i64 (a0.length : Int))]) (σ' := []) (.cons rfl (.refl _) (.nil _)) (.nil _) ?_
    exact ak_ret (fn := Tryz.f124) Tryz.func124 rfl trivial rfl
   ·have h := cond_f ht h
    refine ak_skip ?_
    refine ak_seq ?_
    refine ak_regionS (.cons rfl (ok_assign (dlt rfl rfl) rfl rfl) (.nil ?_))
    obtain rfl := Option.some.inj h
    refine ak_conv (Γ' := [(2, .int .i64 (-1))]) (σ' := []) (.cons rfl (.refl _) (.nil _)) (.nil _) ?_
    exact ak_ret (fn := Tryz.f124) Tryz.func124 rfl trivial rfl
 | l124_1 a0 a1 a2 =>
  intro w F ρ
  dsimp only at h
  refine ak_inBlock ?_
  refine ak_regionS (.cons rfl (ok_move (dlt rfl rfl) rfl rfl) (.cons rfl (ok_add (dlt rfl rfl) rfl rfl rfl) (.cons rfl (ok_assign (dlt rfl rfl) rfl rfl) (.nil ?_))))
  refine ak_inLoop ?_
  exact ak_conv (.cons rfl (.refl _) (.cons rfl (.refl _) (.cons rfl (.refl _) (.nil _)))) (.nil _) (ih _ _ h w F ρ))
theorem d124 {a0 : List UInt8} {r : Int} (h : f124 (.e124 a0) = some r) : Does Tryz.prog GG 124 [.str a0] [] (fun z _ => z = .int .i64 r) := fn_of (fn := Tryz.f124) Tryz.func124 rfl Tryz.ntmps124 rfl (w124 _ _ h)
end Go.Proofs.YtonlbdholdaifaaGreatDoor
end
section
set_option linter.unusedVariables false
set_option linter.unusedSimpArgs false
set_option maxRecDepth 10000
namespace Go.Proofs.YtonlbdholdaifaaGreatDoor
open Go Go.Rf Go.Proofs
/-- riffle/riffleref15.Good -/
noncomputable abbrev b113 : Code := codeOf Tryz.f113
inductive L113 where
 | e113 (a0 : ApiSelector)
noncomputable def f113 : L113 → Option Bool
 | .e113 a0 =>
  if ((decide (a0.kind < (0 : Int))) || (decide ((3 : Int) < a0.kind))) = true then
   some false
  else
   if (((a0.kind != (0 : Int)) && (a0.name != ([] : List UInt8))) || ((a0.kind != (2 : Int)) && (a0.index != (0 : Int)))) = true then
    some false
   else
    if ((a0.kind != (3 : Int)) && (((((a0.start != (0 : Int)) || (a0.stop != (0 : Int))) || (a0.stride != (0 : Int))) || a0.hasStart) || a0.hasEnd)) = true then
     some false
    else
     if (((!a0.hasStart) && (a0.start != (0 : Int))) || ((!a0.hasEnd) && (a0.stop != (0 : Int)))) = true then
      some false
     else
      f168 (.e168 a0.index) >>= fun v1 =>
      gd v1 (f168 (.e168 a0.start)) >>= fun v2 =>
      gd (v1 && v2) (f168 (.e168 a0.stop)) >>= fun v3 =>
      gd ((v1 && v2) && v3) (f168 (.e168 a0.stride)) >>= fun v4 =>
      gd (((v1 && v2) && v3) && v4) (f124 (.e124 a0.name)) >>= fun v5 =>
      some ((((v1 && v2) && v3) && v4) && (v5 == (-1)))
def M113 : L113 → Bool → Prop
 | .e113 a0, r => ∀ (w : World) (F : Nat → Prop) (ρ : Rho), AK Tryz.prog (ctx GG 97 w F ρ []) 113 [.code b113] (argE 0 [.agg [.int .i64 a0.kind, .str a0.name, .int .i64 a0.index, .int .i64 a0.start, .int .i64 a0.stop, .bool a0.hasStart, .bool a0.hasEnd, .int .i64 a0.stride]]) [] (fun z _ => z = .bool r)
theorem w113 : ∀ (l : L113) (r : Bool), f113 l = some r → M113 l r := (by
 intro l r h
 cases l with
 | e113 a0 =>
  intro w F ρ
  dsimp only [f113] at h
  refine ak_seq ?_
  refine ak_regionS (.cons rfl (ok_box (d := 1) (dlt rfl rfl) rfl rfl rfl rfl rfl) (.cons rfl (ok_assign (dlt rfl rfl) rfl rfl) (.nil ?_)))
  refine ak_seq ?_
  refine ak_seq ?_
  refine ak_regionS (.cons rfl (ok_fieldV (dlt rfl rfl) rfl fo49_0 ty3 (by decide) rfl) (.cons rfl (ok_loadV (dlt rfl rfl) rfl ty3 rfl rfl rfl) (.cons rfl (ok_lss (dlt rfl rfl) rfl rfl rfl) (.cons rfl (ok_move (dlt rfl rfl) rfl rfl) (.consG (pre := []) (dlt rfl rfl) rfl rfl rfl rfl .nil (fun he => ok_fieldV (dlt rfl rfl) rfl fo49_0 ty3 (by decide) rfl) (.consG (pre := [(7, .ref 1 0)]) (dlt rfl rfl) rfl rfl rfl rfl (.cons rfl (fun he => he) .nil) (fun he => ok_loadV (dlt rfl rfl) rfl ty3 rfl rfl rfl) (.consG (pre := [(8, .int .i64 a0.kind)]) (dlt rfl rfl) rfl rfl rfl rfl (.cons rfl (fun he => he) .nil) (fun he => ok_gtr (dlt rfl rfl) rfl rfl rfl) (.cons rfl (ok_orW (dlt rfl rfl) rfl rfl rfl (fun h => (bnot_t h))) (.nil ?_)))))))))
  refine ak_cond rfl (fun ht => ?_) (fun ht => ?_)
  ·have h := cond_t ht h
   refine ak_seq ?_
   refine ak_regionS (.cons rfl (ok_assign (dlt rfl rfl) rfl rfl) (.nil ?_))
   obtain rfl := Option.some.inj h
   refine ak_conv (Γ' := [(2, .bool false)]) (σ' := []) (.cons rfl (.refl _) (.nil _)) (.nil _) ?_
   exact ak_ret (fn := Tryz.f113) Tryz.func113 rfl trivial rfl
  ·have h := cond_f ht h
   refine ak_skip ?_
   refine ak_seq ?_
   refine ak_seq ?_
   refine ak_regionS (.cons rfl (ok_fieldV (dlt rfl rfl) rfl fo49_0 ty3 (by decide) rfl) (.cons rfl (ok_loadV (dlt rfl rfl) rfl ty3 rfl rfl rfl) (.cons rfl (ok_neq (dlt rfl rfl) rfl rfl rfl) (.cons rfl (ok_move (dlt rfl rfl) rfl rfl) (.consG (pre := []) (dlt rfl rfl) rfl rfl rfl rfl .nil (fun he => ok_fieldV (dlt rfl rfl) rfl fo49_1 ty9 (by decide) rfl) (.consG (pre := [(15, .ref 1 1)]) (dlt rfl rfl) rfl rfl rfl rfl (.cons rfl (fun he => he) .nil) (fun he => ok_loadV (dlt rfl rfl) rfl ty9 rfl rfl rfl) (.consG (pre := [(16, .str a0.name)]) (dlt rfl rfl) rfl rfl rfl rfl (.cons rfl (fun he => he) .nil) (fun he => ok_neqS (dlt rfl rfl) rfl rfl rfl) (.cons rfl (ok_andW (dlt rfl rfl) rfl rfl rfl (fun h => h)) (.cons rfl (ok_move (dlt rfl rfl) rfl rfl) (.consG (pre := []) (dlt rfl rfl) rfl rfl rfl rfl .nil (fun he => ok_fieldV (dlt rfl rfl) rfl fo49_0 ty3 (by decide) rfl) (.consG (pre := [(20, .ref 1 0)]) (dlt rfl rfl) rfl rfl rfl rfl (.cons rfl (fun he => he) .nil) (fun he => ok_loadV (dlt rfl rfl) rfl ty3 rfl rfl rfl) (.consG (pre := [(21, .int .i64 a0.kind)]) (dlt rfl rfl) rfl rfl rfl rfl (.cons rfl (fun he => he) .nil) (fun he => ok_neq (dlt rfl rfl) rfl rfl rfl) (.consG (pre := [(22, .bool (a0.kind != (2 : Int)))]) (dlt rfl rfl) rfl rfl rfl rfl (.cons rfl (fun he => he) .nil) (fun he => ok_move (dlt rfl rfl) rfl rfl) (.consG (pre := []) (dlt rfl rfl) rfl rfl rfl rfl .nil (fun he => ok_fieldV (dlt rfl rfl) rfl fo49_2 ty3 (by decide) rfl) (.consG (pre := [(24, .ref 1 2)]) (dlt rfl rfl) rfl rfl rfl rfl (.cons rfl (fun he => he) .nil) (fun he => ok_loadV (dlt rfl rfl) rfl ty3 rfl rfl rfl) (.consG (pre := [(25, .int .i64 a0.index)]) (dlt rfl rfl) rfl rfl rfl rfl (.cons rfl (fun he => he) .nil) (fun he => ok_neq (dlt rfl rfl) rfl rfl rfl) (.consG (pre := [(23, .bool (a0.kind != (2 : Int)))]) (dlt rfl rfl) rfl rfl rfl rfl (.cons rfl (fun he => he) .nil) (fun he => ok_andW (dlt rfl rfl) rfl rfl rfl (fun h => band_i he h)) (.cons rfl (ok_orW (dlt rfl rfl) rfl rfl rfl (fun h => (bnot_t h))) (.nil ?_)))))))))))))))))))
   refine ak_cond rfl (fun ht => ?_) (fun ht => ?_)
   ·have h := cond_t ht h
    refine ak_seq ?_
    refine ak_regionS (.cons rfl (ok_assign (dlt rfl rfl) rfl rfl) (.nil ?_))
    obtain rfl := Option.some.inj h
    refine ak_conv (Γ' := [(2, .bool false)]) (σ' := []) (.cons rfl (.refl _) (.nil _)) (.nil _) ?_
    exact ak_ret (fn := Tryz.f113) Tryz.func113 rfl trivial rfl
   ·have h := cond_f ht h
    refine ak_skip ?_
    refine ak_seq ?_
    refine ak_seq ?_
    refine ak_regionS (.cons rfl (ok_fieldV (dlt rfl rfl) rfl fo49_0 ty3 (by decide) rfl) (.cons rfl (ok_loadV (dlt rfl rfl) rfl ty3 rfl rfl rfl) (.cons rfl (ok_neq (dlt rfl rfl) rfl rfl rfl) (.cons rfl (ok_move (dlt rfl rfl) rfl rfl) (.consG (pre := []) (dlt rfl rfl) rfl rfl rfl rfl .nil (fun he => ok_fieldV (dlt rfl rfl) rfl fo49_3 ty3 (by decide) rfl) (.consG (pre := [(33, .ref 1 3)]) (dlt rfl rfl) rfl rfl rfl rfl (.cons rfl (fun he => he) .nil) (fun he => ok_loadV (dlt rfl rfl) rfl ty3 rfl rfl rfl) (.consG (pre := [(34, .int .i64 a0.start)]) (dlt rfl rfl) rfl rfl rfl rfl (.cons rfl (fun he => he) .nil) (fun he => ok_neq (dlt rfl rfl) rfl rfl rfl) (.consG (pre := [(35, .bool (a0.start != (0 : Int)))]) (dlt rfl rfl) rfl rfl rfl rfl (.cons rfl (fun he => he) .nil) (fun he => ok_move (dlt rfl rfl) rfl rfl) (.consG (pre := []) (dlt rfl rfl) rfl rfl rfl rfl .nil (fun he => ok_fieldV (dlt rfl rfl) rfl fo49_4 ty3 (by decide) rfl) (.consG (pre := [(37, .ref 1 4)]) (dlt rfl rfl) rfl rfl rfl rfl (.cons rfl (fun he => he) .nil) (fun he => ok_loadV (dlt rfl rfl) rfl ty3 rfl rfl rfl) (.consG (pre := [(38, .int .i64 a0.stop)]) (dlt rfl rfl) rfl rfl rfl rfl (.cons rfl (fun he => he) .nil) (fun he => ok_neq (dlt rfl rfl) rfl rfl rfl) (.consG (pre := [(36, .bool (a0.start != (0 : Int)))]) (dlt rfl rfl) rfl rfl rfl rfl (.cons rfl (fun he => he) .nil) (fun he => ok_orW (dlt rfl rfl) rfl rfl rfl (fun h => band_i he (bnot_t h))) (.consG (pre := [(40, .bool ((a0.start != (0 : Int)) || (a0.stop != (0 : Int))))]) (dlt rfl rfl) rfl rfl rfl rfl (.cons rfl (fun he => he) .nil) (fun he => ok_move (dlt rfl rfl) rfl rfl) (.consG (pre := []) (dlt rfl rfl) rfl rfl rfl rfl .nil (fun he => ok_fieldV (dlt rfl rfl) rfl fo49_7 ty3 (by decide) rfl) (.consG (pre := [(42, .ref 1 7)]) (dlt rfl rfl) rfl rfl rfl rfl (.cons rfl (fun he => he) .nil) (fun he => ok_loadV (dlt rfl rfl) rfl ty3 rfl rfl rfl) (.consG (pre := [(43, .int .i64 a0.stride)]) (dlt rfl rfl) rfl rfl rfl rfl (.cons rfl (fun he => he) .nil) (fun he => ok_neq (dlt rfl rfl) rfl rfl rfl) (.consG (pre := [(41, .bool ((a0.start != (0 : Int)) || (a0.stop != (0 : Int))))]) (dlt rfl rfl) rfl rfl rfl rfl (.cons rfl (fun he => he) .nil) (fun he => ok_orW (dlt rfl rfl) rfl rfl rfl (fun h => band_i he (bnot_t h))) (.consG (pre := [(45, .bool (((a0.start != (0 : Int)) || (a0.stop != (0 : Int))) || (a0.stride != (0 : Int))))]) (dlt rfl rfl) rfl rfl rfl rfl (.cons rfl (fun he => he) .nil) (fun he => ok_move (dlt rfl rfl) rfl rfl) (.consG (pre := []) (dlt rfl rfl) rfl rfl rfl rfl .nil (fun he => ok_fieldV (dlt rfl rfl) rfl fo49_5 ty4 (by decide) rfl) (.consG (pre := [(47, .ref 1 5)]) (dlt rfl rfl) rfl rfl rfl rfl (.cons rfl (fun he => he) .nil) (fun he => ok_loadV (dlt rfl rfl) rfl ty4 rfl rfl rfl) (.consG (pre := [(46, .bool (((a0.start != (0 : Int)) || (a0.stop != (0 : Int))) || (a0.stride != (0 : Int))))]) (dlt rfl rfl) rfl rfl rfl rfl (.cons rfl (fun he => he) .nil) (fun he => ok_orW (dlt rfl rfl) rfl rfl rfl (fun h => band_i he (bnot_t h))) (.consG (pre := [(49, .bool ((((a0.start != (0 : Int)) || (a0.stop != (0 : Int))) || (a0.stride != (0 : Int))) || a0.hasStart))]) (dlt rfl rfl) rfl rfl rfl rfl (.cons rfl (fun he => he) .nil) (fun he => ok_move (dlt rfl rfl) rfl rfl) (.consG (pre := []) (dlt rfl rfl) rfl rfl rfl rfl .nil (fun he => ok_fieldV (dlt rfl rfl) rfl fo49_6 ty4 (by decide) rfl) (.consG (pre := [(51, .ref 1 6)]) (dlt rfl rfl) rfl rfl rfl rfl (.cons rfl (fun he => he) .nil) (fun he => ok_loadV (dlt rfl rfl) rfl ty4 rfl rfl rfl) (.consG (pre := [(50, .bool ((((a0.start != (0 : Int)) || (a0.stop != (0 : Int))) || (a0.stride != (0 : Int))) || a0.hasStart))]) (dlt rfl rfl) rfl rfl rfl rfl (.cons rfl (fun he => he) .nil) (fun he => ok_orW (dlt rfl rfl) rfl rfl rfl (fun h => band_i he (bnot_t h))) (.cons rfl (ok_andW (dlt rfl rfl) rfl rfl rfl (fun h => h)) (.nil ?_)))))))))))))))))))))))))))
    refine ak_cond rfl (fun ht => ?_) (fun ht => ?_)
    ·have h := cond_t ht h
     refine ak_seq ?_
     refine ak_regionS (.cons rfl (ok_assign (dlt rfl rfl) rfl rfl) (.nil ?_))
     obtain rfl := Option.some.inj h
     refine ak_conv (Γ' := [(2, .bool false)]) (σ' := []) (.cons rfl (.refl _) (.nil _)) (.nil _) ?_
     exact ak_ret (fn := Tryz.f113) Tryz.func113 rfl trivial rfl
    ·have h := cond_f ht h
     refine ak_skip ?_
     refine ak_seq ?_
     refine ak_seq ?_
     refine ak_regionS (.cons rfl (ok_fieldV (dlt rfl rfl) rfl fo49_5 ty4 (by decide) rfl) (.cons rfl (ok_loadV (dlt rfl rfl) rfl ty4 rfl rfl rfl) (.cons rfl (ok_not (dlt rfl rfl) rfl rfl) (.cons rfl (ok_move (dlt rfl rfl) rfl rfl) (.consG (pre := []) (dlt rfl rfl) rfl rfl rfl rfl .nil (fun he => ok_fieldV (dlt rfl rfl) rfl fo49_3 ty3 (by decide) rfl) (.consG (pre := [(59, .ref 1 3)]) (dlt rfl rfl) rfl rfl rfl rfl (.cons rfl (fun he => he) .nil) (fun he => ok_loadV (dlt rfl rfl) rfl ty3 rfl rfl rfl) (.consG (pre := [(60, .int .i64 a0.start)]) (dlt rfl rfl) rfl rfl rfl rfl (.cons rfl (fun he => he) .nil) (fun he => ok_neq (dlt rfl rfl) rfl rfl rfl) (.cons rfl (ok_andW (dlt rfl rfl) rfl rfl rfl (fun h => h)) (.cons rfl (ok_move (dlt rfl rfl) rfl rfl) (.consG (pre := []) (dlt rfl rfl) rfl rfl rfl rfl .nil (fun he => ok_fieldV (dlt rfl rfl) rfl fo49_6 ty4 (by decide) rfl) (.consG (pre := [(64, .ref 1 6)]) (dlt rfl rfl) rfl rfl rfl rfl (.cons rfl (fun he => he) .nil) (fun he => ok_loadV (dlt rfl rfl) rfl ty4 rfl rfl rfl) (.consG (pre := [(65, .bool a0.hasEnd)]) (dlt rfl rfl) rfl rfl rfl rfl (.cons rfl (fun he => he) .nil) (fun he => ok_not (dlt rfl rfl) rfl rfl) (.consG (pre := [(66, .bool (!a0.hasEnd))]) (dlt rfl rfl) rfl rfl rfl rfl (.cons rfl (fun he => he) .nil) (fun he => ok_move (dlt rfl rfl) rfl rfl) (.consG (pre := []) (dlt rfl rfl) rfl rfl rfl rfl .nil (fun he => ok_fieldV (dlt rfl rfl) rfl fo49_4 ty3 (by decide) rfl) (.consG (pre := [(68, .ref 1 4)]) (dlt rfl rfl) rfl rfl rfl rfl (.cons rfl (fun he => he) .nil) (fun he => ok_loadV (dlt rfl rfl) rfl ty3 rfl rfl rfl) (.consG (pre := [(69, .int .i64 a0.stop)]) (dlt rfl rfl) rfl rfl rfl rfl (.cons rfl (fun he => he) .nil) (fun he => ok_neq (dlt rfl rfl) rfl rfl rfl) (.consG (pre := [(67, .bool (!a0.hasEnd))]) (dlt rfl rfl) rfl rfl rfl rfl (.cons rfl (fun he => he) .nil) (fun he => ok_andW (dlt rfl rfl) rfl rfl rfl (fun h => band_i he h)) (.cons rfl (ok_orW (dlt rfl rfl) rfl rfl rfl (fun h => (bnot_t h))) (.nil ?_)))))))))))))))))))
     refine ak_cond rfl (fun ht => ?_) (fun ht => ?_)
     ·have h := cond_t ht h
      refine ak_seq ?_
      refine ak_regionS (.cons rfl (ok_assign (dlt rfl rfl) rfl rfl) (.nil ?_))
      obtain rfl := Option.some.inj h
      refine ak_conv (Γ' := [(2, .bool false)]) (σ' := []) (.cons rfl (.refl _) (.nil _)) (.nil _) ?_
      exact ak_ret (fn := Tryz.f113) Tryz.func113 rfl trivial rfl
     ·have h := cond_f ht h
      refine ak_skip ?_
      refine ak_seq ?_
      obtain ⟨v1, hv1, h⟩ := bind_of h
      obtain ⟨v2, hv2, h⟩ := bind_of h
      obtain ⟨v3, hv3, h⟩ := bind_of h
      obtain ⟨v4, hv4, h⟩ := bind_of h
      obtain ⟨v5, hv5, h⟩ := bind_of h
      refine ak_regionS (.cons rfl (ok_fieldV (dlt rfl rfl) rfl fo49_2 ty3 (by decide) rfl) (.cons rfl (ok_loadV (dlt rfl rfl) rfl ty3 rfl rfl rfl) (.cons rfl (ok_call (xs := [.int .i64 a0.index]) (caps := []) (dlt rfl rfl) rfl rfl Tryz.func168 rfl rfl rfl (d168 hv1) rfl) (.cons rfl (ok_move (dlt rfl rfl) rfl rfl) (.consG (pre := []) (dlt rfl rfl) rfl rfl rfl rfl .nil (fun he => ok_fieldV (dlt rfl rfl) rfl fo49_3 ty3 (by decide) rfl) (.consG (pre := [(77, .ref 1 3)]) (dlt rfl rfl) rfl rfl rfl rfl (.cons rfl (fun he => he) .nil) (fun he => ok_loadV (dlt rfl rfl) rfl ty3 rfl rfl rfl) (.consG (pre := [(78, .int .i64 a0.start)]) (dlt rfl rfl) rfl rfl rfl rfl (.cons rfl (fun he => he) .nil) (fun he => ok_call (xs := [.int .i64 a0.start]) (caps := []) (dlt rfl rfl) rfl rfl Tryz.func168 rfl rfl rfl (d168 (gd_t hv2 he)) rfl) (.cons rfl (ok_andW (dlt rfl rfl) rfl rfl rfl (fun h => h)) (.cons rfl (ok_move (dlt rfl rfl) rfl rfl) (.consG (pre := []) (dlt rfl rfl) rfl rfl rfl rfl .nil (fun he => ok_fieldV (dlt rfl rfl) rfl fo49_4 ty3 (by decide) rfl) (.consG (pre := [(82, .ref 1 4)]) (dlt rfl rfl) rfl rfl rfl rfl (.cons rfl (fun he => he) .nil) (fun he => ok_loadV (dlt rfl rfl) rfl ty3 rfl rfl rfl) (.consG (pre := [(83, .int .i64 a0.stop)]) (dlt rfl rfl) rfl rfl rfl rfl (.cons rfl (fun he => he) .nil) (fun he => ok_call (xs := [.int .i64 a0.stop]) (caps := []) (dlt rfl rfl) rfl rfl Tryz.func168 rfl rfl rfl (d168 (gd_t hv3 he)) rfl) (.cons rfl (ok_andW (dlt rfl rfl) rfl rfl rfl (fun h => h)) (.cons rfl (ok_move (dlt rfl rfl) rfl rfl) (.consG (pre := []) (dlt rfl rfl) rfl rfl rfl rfl .nil (fun he => ok_fieldV (dlt rfl rfl) rfl fo49_7 ty3 (by decide) rfl) (.consG (pre := [(87, .ref 1 7)]) (dlt rfl rfl) rfl rfl rfl rfl (.cons rfl (fun he => he) .nil) (fun he => ok_loadV (dlt rfl rfl) rfl ty3 rfl rfl rfl) (.consG (pre := [(88, .int .i64 a0.stride)]) (dlt rfl rfl) rfl rfl rfl rfl (.cons rfl (fun he => he) .nil) (fun he => ok_call (xs := [.int .i64 a0.stride]) (caps := []) (dlt rfl rfl) rfl rfl Tryz.func168 rfl rfl rfl (d168 (gd_t hv4 he)) rfl) (.cons rfl (ok_andW (dlt rfl rfl) rfl rfl rfl (fun h => h)) (.cons rfl (ok_move (dlt rfl rfl) rfl rfl) (.consG (pre := []) (dlt rfl rfl) rfl rfl rfl rfl .nil (fun he => ok_fieldV (dlt rfl rfl) rfl fo49_1 ty9 (by decide) rfl) (.consG (pre := [(92, .ref 1 1)]) (dlt rfl rfl) rfl rfl rfl rfl (.cons rfl (fun he => he) .nil) (fun he => ok_loadV (dlt rfl rfl) rfl ty9 rfl rfl rfl) (.consG (pre := [(93, .str a0.name)]) (dlt rfl rfl) rfl rfl rfl rfl (.cons rfl (fun he => he) .nil) (fun he => ok_call (xs := [.str a0.name]) (caps := []) (dlt rfl rfl) rfl rfl Tryz.func124 rfl rfl rfl (d124 (gd_t hv5 he)) rfl) (.consG (pre := [(94, .int .i64 v5)]) (dlt rfl rfl) rfl rfl rfl rfl (.cons rfl (fun he => he) .nil) (fun he => ok_eql (dlt rfl rfl) rfl rfl rfl) (.cons rfl (ok_andW (dlt rfl rfl) rfl rfl rfl (fun h => h)) (.cons rfl (ok_assign (dlt rfl rfl) rfl rfl) (.nil ?_))))))))))))))))))))))))))
      obtain rfl := Option.some.inj h
      refine ak_conv (Γ' := [(2, .bool ((((v1 && v2) && v3) && v4) && (v5 == (-1))))]) (σ' := []) (.cons rfl (.refl _) (.nil _)) (.nil _) ?_
      exact ak_ret (fn := Tryz.f113) Tryz.func113 rfl trivial rfl)
theorem d113 {a0 : ApiSelector} {r : Bool} (h : f113 (.e113 a0) = some r) : Does Tryz.prog GG 113 [.agg [.int .i64 a0.kind, .str a0.name, .int .i64 a0.index, .int .i64 a0.start, .int .i64 a0.stop, .bool a0.hasStart, .bool a0.hasEnd, .int .i64 a0.stride]] [] (fun z _ => z = .bool r) := fn_of (fn := Tryz.f113) Tryz.func113 rfl Tryz.ntmps113 rfl (w113 _ _ h)
/-- riffle/riffleref15.Right -/
noncomputable abbrev b58 : Code := codeOf Tryz.f58
inductive L58 where
 | e58 (a0 : List ApiSegment)
 | l58_0 (a0 : List ApiSegment) (a1 : Int) (a2 : Int)
 | l58_1 (a0 : List ApiSegment) (a1 : Int) (a2 : Int) (a3 : List ApiSelector) (a4 : Int) (a5 : Int)
noncomputable def f58 : L58 → Option Bool
 | .e58 a0 =>
  f58 (.l58_0 a0 (a0.length : Int) (0 : Int))
 | .l58_0 a0 a1 a2 =>
  if (decide (a2 < a1)) = true then
   idx a0 a2 >>= fun v1 =>
   if ((v1.selectors.length : Int) == (0 : Int)) = true then
    some false
   else
    f58 (.l58_1 a0 a1 a2 v1.selectors (v1.selectors.length : Int) (0 : Int))
  else
   some true
 | .l58_1 a0 a1 a2 a3 a4 a5 =>
  if (decide (a5 < a4)) = true then
   idx a3 a5 >>= fun v2 =>
   f113 (.e113 v2) >>= fun v3 =>
   if (!v3) = true then
    some false
   else
    f58 (.l58_1 a0 a1 a2 a3 a4 (IntKind.wrap .i64 (a5 + (1 : Int))))
  else
   f58 (.l58_0 a0 a1 (IntKind.wrap .i64 (a2 + (1 : Int))))
 partial_fixpoint
def M58 : L58 → Bool → Prop
 | .e58 a0, r => ∀ (w : World) (F : Nat → Prop) (ρ : Rho), AK Tryz.prog (ctx GG 29 w F ρ []) 58 [.code b58] (argE 0 [.sl Ty.sApiSegment a0]) [] (fun z _ => z = .bool r)
 | .l58_0 a0 a1 a2, r => ∀ (w : World) (F : Nat → Prop) (ρ : Rho), AK Tryz.prog (ctx GG 29 w F ρ []) 58 [.code (c1 (c1 (c2 (c1 (c2 b58))))), .inLoop (c1 (c1 (c2 (c1 (c2 b58))))), .inBlock 0, .code (c2 (c2 b58))] [(7, .sl Ty.sApiSegment a0), (8, .int .i64 a1), (9, .int .i64 a2)] [] (fun z _ => z = .bool r)
 | .l58_1 a0 a1 a2 a3 a4 a5, r => ∀ (w : World) (F : Nat → Prop) (ρ : Rho), AK Tryz.prog (ctx GG 29 w F ρ []) 58 [.code (c1 (c1 (c2 (c2 (c2 (c1 (c1 (c2 (c2 (c1 (c1 (c2 (c1 (c2 b58)))))))))))))), .inLoop (c1 (c1 (c2 (c2 (c2 (c1 (c1 (c2 (c2 (c1 (c1 (c2 (c1 (c2 b58)))))))))))))), .inBlock 2, .inBlock 1, .code (c2 (c2 (c2 (c1 (c1 (c2 (c1 (c2 b58)))))))), .inLoop (c1 (c1 (c2 (c1 (c2 b58))))), .inBlock 0, .code (c2 (c2 b58))] [(7, .sl Ty.sApiSegment a0), (8, .int .i64 a1), (9, .int .i64 a2), (18, .sl Ty.sApiSelector a3), (19, .int .i64 a4), (20, .int .i64 a5)] [] (fun z _ => z = .bool r)
theorem w58 : ∀ (l : L58) (r : Bool), f58 l = some r → M58 l r := f58.partial_correctness M58 (by
 intro f ih l r h
 cases l with
 | e58 a0 =>
  intro w F ρ
  dsimp only at h
  refine ak_seq ?_
  refine ak_regionS (.cons rfl (ok_assign (dlt rfl rfl) rfl rfl) (.nil ?_))
  refine ak_seq ?_
  refine ak_seq ?_
  refine ak_regionS (.cons rfl (ok_move (dlt rfl rfl) rfl rfl) (.cons rfl (ok_lenS (τ := Ty.sApiSegment) (xs := a0) (dlt rfl rfl) rfl Tryz.underlying24 rfl) (.cons rfl (ok_move (dlt rfl rfl) rfl rfl) (.nil ?_))))
  refine ak_block ?_
  refine ak_loop ?_
  exact ak_conv (.cons rfl (.refl _) (.cons rfl (.refl _) (.cons rfl (.refl _) (.nil _)))) (.nil _) (ih _ _ h w F ρ)
 | l58_0 a0 a1 a2 =>
  intro w F ρ
  dsimp only at h
  refine ak_seq ?_
  refine ak_regionS (.cons rfl (ok_lss (dlt rfl rfl) rfl rfl rfl) (.nil ?_))
  refine ak_seq ?_
  refine ak_cond rfl (fun ht => ?_) (fun ht => ?_)
  ·have h := cond_t ht h
   refine ak_skip ?_
   refine ak_seq ?_
   refine ak_block ?_
   refine ak_seq ?_
   obtain ⟨v1, hv1, h⟩ := bind_of h
   refine ak_regionS (.cons rfl (ok_indexS (τ := Ty.sApiSegment) (x := v1) (dlt rfl rfl) rfl Tryz.underlying24 ty47 rfl rfl rfl (idx_0 hv1) (idx_1 hv1)) (.cons rfl (ok_loadRT (dlt rfl rfl) rfl ty47 rfl (by decide) rfl) (.cons rfl (ok_alloc (d := 4) (dlt rfl rfl) rfl ty47 rfl rfl rfl) (.cons rfl (ok_storeV rfl rfl ty47 rfl rfl rfl rfl (by decide) rfl rfl) (.nil ?_)))))
   refine ak_seq ?_
   refine ak_seq ?_
   refine ak_regionS (.cons rfl (ok_fieldV (dlt rfl rfl) rfl fo47_1 ty45 (by decide) rfl) (.cons rfl (ok_loadV (dlt rfl rfl) rfl ty45 rfl rfl rfl) (.cons rfl (ok_lenS (τ := Ty.sApiSelector) (xs := v1.selectors) (dlt rfl rfl) rfl Tryz.underlying45 rfl) (.cons rfl (ok_eql (dlt rfl rfl) rfl rfl rfl) (.nil ?_)))))
   refine ak_cond rfl (fun ht => ?_) (fun ht => ?_)
   ·have h := cond_t ht h
    refine ak_seq ?_
    refine ak_regionS (.cons rfl (ok_assign (dlt rfl rfl) rfl rfl) (.nil ?_))
    obtain rfl := Option.some.inj h
    refine ak_conv (Γ' := [(2, .bool false)]) (σ' := []) (.cons rfl (.refl _) (.nil _)) (.nil _) ?_
    exact ak_ret (fn := Tryz.f58) Tryz.func58 rfl trivial rfl
   ·have h := cond_f ht h
    refine ak_skip ?_
    refine ak_seq ?_
    refine ak_regionS (.cons rfl (ok_fieldV (dlt rfl rfl) rfl fo47_1 ty45 (by decide) rfl) (.cons rfl (ok_loadV (dlt rfl rfl) rfl ty45 rfl rfl rfl) (.cons rfl (ok_lenS (τ := Ty.sApiSelector) (xs := v1.selectors) (dlt rfl rfl) rfl Tryz.underlying45 rfl) (.cons rfl (ok_move (dlt rfl rfl) rfl rfl) (.nil ?_)))))
    refine ak_block ?_
    refine ak_loop ?_
    exact ak_conv (.cons rfl (.refl _) (.cons rfl (.refl _) (.cons rfl (.refl _) (.cons rfl (.refl _) (.cons rfl (.refl _) (.cons rfl (.refl _) (.nil _))))))) (.nil _) (ih _ _ h w F ρ)
  ·have h := cond_f ht h
   refine ak_exit rfl ?_
   refine ak_seq ?_
   refine ak_regionS (.cons rfl (ok_assign (dlt rfl rfl) rfl rfl) (.nil ?_))
   obtain rfl := Option.some.inj h
   refine ak_conv (Γ' := [(2, .bool true)]) (σ' := []) (.cons rfl (.refl _) (.nil _)) (.nil _) ?_
   exact ak_ret (fn := Tryz.f58) Tryz.func58 rfl trivial rfl
 | l58_1 a0 a1 a2 a3 a4 a5 =>
  intro w F ρ
  dsimp only at h
  refine ak_seq ?_
  refine ak_regionS (.cons rfl (ok_lss (dlt rfl rfl) rfl rfl rfl) (.nil ?_))
  refine ak_seq ?_
  refine ak_cond rfl (fun ht => ?_) (fun ht => ?_)
  ·have h := cond_t ht h
   refine ak_skip ?_
   refine ak_seq ?_
   refine ak_block ?_
   refine ak_seq ?_
   obtain ⟨v2, hv2, h⟩ := bind_of h
   refine ak_regionS (.cons rfl (ok_indexS (τ := Ty.sApiSelector) (x := v2) (dlt rfl rfl) rfl Tryz.underlying45 ty49 rfl rfl rfl (idx_0 hv2) (idx_1 hv2)) (.cons rfl (ok_loadRT (dlt rfl rfl) rfl ty49 rfl (by decide) rfl) (.cons rfl (ok_alloc (d := 6) (dlt rfl rfl) rfl ty49 rfl rfl rfl) (.cons rfl (ok_storeV rfl rfl ty49 rfl rfl rfl rfl (by decide) rfl rfl) (.nil ?_)))))
   refine ak_seq ?_
   obtain ⟨v3, hv3, h⟩ := bind_of h
   refine ak_regionS (.cons rfl (ok_loadVT (dlt rfl rfl) rfl ty49 rfl rfl (by decide) rfl) (.cons rfl (ok_call (xs := [.agg [.int .i64 v2.kind, .str v2.name, .int .i64 v2.index, .int .i64 v2.start, .int .i64 v2.stop, .bool v2.hasStart, .bool v2.hasEnd, .int .i64 v2.stride]]) (caps := []) (dlt rfl rfl) rfl rfl Tryz.func113 rfl rfl rfl (d113 hv3) rfl) (.cons rfl (ok_not (dlt rfl rfl) rfl rfl) (.nil ?_))))
   refine ak_cond rfl (fun ht => ?_) (fun ht => ?_)
   ·have h := cond_t ht h
    refine ak_seq ?_
    refine ak_regionS (.cons rfl (ok_assign (dlt rfl rfl) rfl rfl) (.nil ?_))
    obtain rfl := Option.some.inj h
    refine ak_conv (Γ' := [(2, .bool false)]) (σ' := []) (.cons rfl (.refl _) (.nil _)) (.nil _) ?_
    exact ak_ret (fn := Tryz.f58) Tryz.func58 rfl trivial rfl
   ·have h := cond_f ht h
    refine ak_skip ?_
    refine ak_inBlock ?_
    refine ak_regionS (.cons rfl (ok_add (dlt rfl rfl) rfl rfl rfl) (.cons rfl (ok_move (dlt rfl rfl) rfl rfl) (.nil ?_)))
    refine ak_inLoop ?_
    exact ak_conv (.cons rfl (.refl _) (.cons rfl (.refl _) (.cons rfl (.refl _) (.cons rfl (.refl _) (.cons rfl (.refl _) (.cons rfl (.refl _) (.nil _))))))) (.nil _) (ih _ _ h w F ρ)
  ·have h := cond_f ht h
   refine ak_exit rfl ?_
   refine ak_inBlock ?_
   refine ak_regionS (.cons rfl (ok_add (dlt rfl rfl) rfl rfl rfl) (.cons rfl (ok_move (dlt rfl rfl) rfl rfl) (.nil ?_)))
   refine ak_inLoop ?_
   exact ak_conv (.cons rfl (.refl _) (.cons rfl (.refl _) (.cons rfl (.refl _) (.nil _)))) (.nil _) (ih _ _ h w F ρ))
theorem d58 {a0 : List ApiSegment} {r : Bool} (h : f58 (.e58 a0) = some r) : Does Tryz.prog GG 58 [.sl Ty.sApiSegment a0] [] (fun z _ => z = .bool r) := fn_of (fn := Tryz.f58) Tryz.func58 rfl Tryz.ntmps58 rfl (w58 _ _ h)
end Go.Proofs.YtonlbdholdaifaaGreatDoor
end
