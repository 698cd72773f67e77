import Derived.Test.YtonlbdholdaifaaGreatDoorProg
import Derived.Test.YtonlbdholdaifaaGreatDoorRfp4
import Derived.Test.YtonlbdholdaifaaGreatDoorRgp1
import Derived.Test.YtonlbdholdaifaaGreatDoorRgp8
import Derived.Test.YtonlbdholdaifaaGreatDoorRgp7
section
set_option linter.unusedVariables false
set_option linter.unusedSimpArgs false
set_option maxRecDepth 10000
namespace Go.Proofs.YtonlbdholdaifaaGreatDoor
open Go Go.Rf Go.Proofs
/-- riffle/riffleref16.Meets -/
noncomputable abbrev b76 : Code := codeOf Tryz.f76
inductive L76 where
 | e76 (a0 : ApiValue) (a1 : Int) (a2 : ApiSelector)
noncomputable def f76 : L76 → Option Bool
 | .e76 a0 a1 a2 =>
  if (a0.kind == (5 : Int)) = true then
   gd ((!(a2.kind == (1 : Int))) && (a2.kind == (0 : Int))) (idx a0.names a1) >>= fun v1 =>
   some ((a2.kind == (1 : Int)) || ((a2.kind == (0 : Int)) && (v1 == a2.name)))
  else
   gd ((a0.kind == (4 : Int)) && !(a2.kind == (1 : Int))) (f128 (.e128 a2 a1 (a0.items.length : Int))) >>= fun v2 =>
   some ((a0.kind == (4 : Int)) && ((a2.kind == (1 : Int)) || v2))
def M76 : L76 → Bool → Prop
 | .e76 a0 a1 a2, r => ∀ (w : World) (F : Nat → Prop) (ρ : Rho), AK Tryz.prog (ctx GG 44 w F ρ []) 76 [.code b76] (argE 0 [.agg [.int .i64 a0.kind, .int .i64 a0.frm, .int .i64 a0.to, .str a0.text, .sl Ty.sApiValue a0.items, .sl Ty.str a0.names], .int .i64 a1, .agg [.int .i64 a2.kind, .str a2.name, .int .i64 a2.index, .int .i64 a2.start, .int .i64 a2.stop, .bool a2.hasStart, .bool a2.hasEnd, .int .i64 a2.stride]]) [] (fun z _ => z = .bool r)
theorem w76 : ∀ (l : L76) (r : Bool), f76 l = some r → M76 l r := (by
 intro l r h
 cases l with
 | e76 a0 a1 a2 =>
  intro w F ρ
  dsimp only [f76] at h
  refine ak_seq ?_
  refine ak_regionS (.cons rfl (ok_box (d := 3) (dlt rfl rfl) rfl rfl rfl rfl rfl) (.cons rfl (ok_box (d := 5) (dlt rfl rfl) rfl rfl rfl rfl rfl) (.cons rfl (ok_assign (dlt rfl rfl) rfl rfl) (.nil ?_))))
  refine ak_seq ?_
  refine ak_seq ?_
  refine ak_regionS (.cons rfl (ok_fieldV (dlt rfl rfl) rfl fo29_0 ty3 (by decide) rfl) (.cons rfl (ok_loadV (dlt rfl rfl) rfl ty3 rfl rfl rfl) (.cons rfl (ok_eql (dlt rfl rfl) rfl rfl rfl) (.nil ?_))))
  refine ak_cond rfl (fun ht => ?_) (fun ht => ?_)
  ·have h := cond_t ht h
   refine ak_seq ?_
   obtain ⟨v1, hv1, h⟩ := bind_of h
   refine ak_drawL [⟨some 10, [(5, .ref 5 0)], none, true, .ref 5 0, [], []⟩,
  ⟨some 11, [(10, .ref 5 0)], none, true, .int .i64 a2.kind, [(5, .cells 49 [.int .i64 a2.kind, .str a2.name, .int .i64 a2.index, .int .i64 a2.start, .int .i64 a2.stop, .bool a2.hasStart, .bool a2.hasEnd, .int .i64 a2.stride])], []⟩,
  ⟨some 12, [(11, .int .i64 a2.kind)], none, true, .bool (a2.kind == (1 : Int)), [], []⟩,
  ⟨some 13, [(12, .bool (a2.kind == (1 : Int)))], none, true, .bool (a2.kind == (1 : Int)), [], []⟩,
  ⟨some 14, [(5, .ref 5 0)], some 13, (!(a2.kind == (1 : Int))), .ref 5 0, [], []⟩,
  ⟨some 15, [(14, .ref 5 0)], some 13, (!(a2.kind == (1 : Int))), .int .i64 a2.kind, [(5, .cells 49 [.int .i64 a2.kind, .str a2.name, .int .i64 a2.index, .int .i64 a2.start, .int .i64 a2.stop, .bool a2.hasStart, .bool a2.hasEnd, .int .i64 a2.stride])], []⟩,
  ⟨some 16, [(15, .int .i64 a2.kind)], some 13, (!(a2.kind == (1 : Int))), .bool (a2.kind == (0 : Int)), [], []⟩,
  ⟨some 17, [(16, .bool (a2.kind == (0 : Int)))], some 13, (!(a2.kind == (1 : Int))), .bool (a2.kind == (0 : Int)), [], []⟩,
  ⟨some 18, [(3, .ref 3 0)], some 17, ((!(a2.kind == (1 : Int))) && (a2.kind == (0 : Int))), .ref 3 5, [], []⟩,
  ⟨some 19, [(18, .ref 3 5)], some 17, ((!(a2.kind == (1 : Int))) && (a2.kind == (0 : Int))), .sl Ty.str a0.names, [(3, .cells 29 [.int .i64 a0.kind, .int .i64 a0.frm, .int .i64 a0.to, .str a0.text, .sl Ty.sApiValue a0.items, .sl Ty.str a0.names])], []⟩,
  ⟨some 20, [(1, .int .i64 a1)], some 17, ((!(a2.kind == (1 : Int))) && (a2.kind == (0 : Int))), .int .i64 a1, [], []⟩,
  ⟨some 21, [(19, .sl Ty.str a0.names), (20, .int .i64 a1)], some 17, ((!(a2.kind == (1 : Int))) && (a2.kind == (0 : Int))), .rp [.str v1], [], []⟩,
  ⟨some 22, [(21, .rp [.str v1])], some 17, ((!(a2.kind == (1 : Int))) && (a2.kind == (0 : Int))), .str v1, [], []⟩,
  ⟨some 23, [(5, .ref 5 0)], some 17, ((!(a2.kind == (1 : Int))) && (a2.kind == (0 : Int))), .ref 5 1, [], []⟩,
  ⟨some 24, [(23, .ref 5 1)], some 17, ((!(a2.kind == (1 : Int))) && (a2.kind == (0 : Int))), .str a2.name, [(5, .cells 49 [.int .i64 a2.kind, .str a2.name, .int .i64 a2.index, .int .i64 a2.start, .int .i64 a2.stop, .bool a2.hasStart, .bool a2.hasEnd, .int .i64 a2.stride])], []⟩,
  ⟨some 25, [(22, .str v1), (24, .str a2.name)], some 17, ((!(a2.kind == (1 : Int))) && (a2.kind == (0 : Int))), .bool (v1 == a2.name), [], []⟩,
  ⟨some 26, [(17, .bool (a2.kind == (0 : Int))), (25, .when ((!(a2.kind == (1 : Int))) && (a2.kind == (0 : Int))) (.bool (v1 == a2.name)))], some 13, (!(a2.kind == (1 : Int))), .bool ((a2.kind == (0 : Int)) && (v1 == a2.name)), [], []⟩,
  ⟨some 27, [(13, .bool (a2.kind == (1 : Int))), (26, .when (!(a2.kind == (1 : Int))) (.bool ((a2.kind == (0 : Int)) && (v1 == a2.name))))], none, true, .bool ((a2.kind == (1 : Int)) || ((a2.kind == (0 : Int)) && (v1 == a2.name))), [], []⟩,
  ⟨some 6, [(27, .bool ((a2.kind == (1 : Int)) || ((a2.kind == (0 : Int)) && (v1 == a2.name))))], none, true, .bool ((a2.kind == (1 : Int)) || ((a2.kind == (0 : Int)) && (v1 == a2.name))), [], []⟩] [[], [0], [0, 1], [0, 1, 2], [0, 1, 2, 3], [0, 1, 2, 3, 4], [0, 1, 2, 3, 4, 5], [0, 1, 2, 3, 4, 5, 6], [0, 1, 2, 3, 4, 5, 6, 7], [0, 1, 2, 3, 4, 5, 6, 7, 8], [0, 1, 2, 3, 4, 5, 6, 7], [0, 1, 2, 3, 4, 5, 6, 7, 8, 9, 10], [0, 1, 2, 3, 4, 5, 6, 7, 8, 9, 10, 11], [0, 1, 2, 3, 4, 5, 6, 7], [0, 1, 2, 3, 4, 5, 6, 7, 13], [0, 1, 2, 3, 4, 5, 6, 7, 8, 9, 10, 11, 12, 13, 14], [0, 1, 2, 3, 4, 5, 6, 7, 8, 9, 10, 11, 12, 13, 14, 15], [0, 1, 2, 3, 4, 5, 6, 7, 8, 9, 10, 11, 12, 13, 14, 15, 16], [0, 1, 2, 3, 4, 5, 6, 7, 8, 9, 10, 11, 12, 13, 14, 15, 16, 17]] (by kernel_rfl) (by kernel_rfl) (.cons (qok (dlt rfl rfl) rfl (.same rfl .nil) (NeedQ.all .nil) (fun Γx σx => ok_fieldV (dlt rfl rfl) rfl fo49_0 ty3 (by decide) rfl)) (.cons (qok (dlt rfl rfl) rfl (.same rfl .nil) (NeedQ.all (.cons rfl .nil)) (fun Γx σx => ok_loadV (dlt rfl rfl) rfl ty3 rfl rfl rfl)) (.cons (qok (dlt rfl rfl) rfl (.same rfl .nil) (NeedQ.all .nil) (fun Γx σx => ok_eql (dlt rfl rfl) rfl rfl rfl)) (.cons (qok (dlt rfl rfl) rfl (.same rfl .nil) (NeedQ.all .nil) (fun Γx σx => ok_move (dlt rfl rfl) rfl rfl)) (.cons (qokG (dlt rfl rfl) rfl rfl rfl rfl (.same rfl .nil) (NeedQ.all .nil) (fun he Γx σx => ok_fieldV (dlt rfl rfl) rfl fo49_0 ty3 (by decide) rfl)) (.cons (qokG (dlt rfl rfl) rfl rfl rfl rfl (.when rfl (fun he => he) .nil) (NeedQ.all (.cons rfl .nil)) (fun he Γx σx => ok_loadV (dlt rfl rfl) rfl ty3 rfl rfl rfl)) (.cons (qokG (dlt rfl rfl) rfl rfl rfl rfl (.when rfl (fun he => he) .nil) (NeedQ.all .nil) (fun he Γx σx => ok_eql (dlt rfl rfl) rfl rfl rfl)) (.cons (qokG (dlt rfl rfl) rfl rfl rfl rfl (.when rfl (fun he => he) .nil) (NeedQ.all .nil) (fun he Γx σx => ok_move (dlt rfl rfl) rfl rfl)) (.cons (qokG (dlt rfl rfl) rfl rfl rfl rfl (.same rfl .nil) (NeedQ.all .nil) (fun he Γx σx => ok_fieldV (dlt rfl rfl) rfl fo29_5 ty27 (by decide) rfl)) (.cons (qokG (dlt rfl rfl) rfl rfl rfl rfl (.when rfl (fun he => he) .nil) (NeedQ.all (.cons rfl .nil)) (fun he Γx σx => ok_loadV (dlt rfl rfl) rfl ty27 rfl rfl rfl)) (.cons (qokG (dlt rfl rfl) rfl rfl rfl rfl (.same rfl .nil) (NeedQ.all .nil) (fun he Γx σx => ok_move (dlt rfl rfl) rfl rfl)) (.cons (qokG (dlt rfl rfl) rfl rfl rfl rfl (.when rfl (fun he => he) (.when rfl (fun he => he) .nil)) (NeedQ.all .nil) (fun he Γx σx => ok_indexS (τ := Ty.str) (x := v1) (dlt rfl rfl) rfl Tryz.underlying27 ty9 rfl rfl rfl (idx_0 (gd_t hv1 he)) (idx_1 (gd_t hv1 he)))) (.cons (qokG (dlt rfl rfl) rfl rfl rfl rfl (.when rfl (fun he => he) .nil) (NeedQ.all .nil) (fun he Γx σx => ok_loadR (dlt rfl rfl) rfl ty9 rfl rfl)) (.cons (qokG (dlt rfl rfl) rfl rfl rfl rfl (.same rfl .nil) (NeedQ.all .nil) (fun he Γx σx => ok_fieldV (dlt rfl rfl) rfl fo49_1 ty9 (by decide) rfl)) (.cons (qokG (dlt rfl rfl) rfl rfl rfl rfl (.when rfl (fun he => he) .nil) (NeedQ.all (.cons rfl .nil)) (fun he Γx σx => ok_loadV (dlt rfl rfl) rfl ty9 rfl rfl rfl)) (.cons (qokG (dlt rfl rfl) rfl rfl rfl rfl (.when rfl (fun he => he) (.when rfl (fun he => he) .nil)) (NeedQ.all .nil) (fun he Γx σx => ok_eqlS (dlt rfl rfl) rfl rfl rfl)) (.cons (qokG (dlt rfl rfl) rfl rfl rfl rfl (.when rfl (fun he => he) (.same rfl .nil)) (NeedQ.all .nil) (fun he Γx σx => ok_andW (dlt rfl rfl) rfl rfl rfl (fun h => band_i he h))) (.cons (qok (dlt rfl rfl) rfl (.same rfl (.same rfl .nil)) (NeedQ.all .nil) (fun Γx σx => ok_orW (dlt rfl rfl) rfl rfl rfl (fun h => (bnot_t h)))) (.cons (qok (dlt rfl rfl) rfl (.same rfl .nil) (NeedQ.all .nil) (fun Γx σx => ok_assign (dlt rfl rfl) rfl rfl)) (.nil _ _)))))))))))))))))))) (.nil ?_)
   obtain rfl := Option.some.inj h
   refine ak_conv (Γ' := [(6, .bool ((a2.kind == (1 : Int)) || ((a2.kind == (0 : Int)) && (v1 == a2.name))))]) (σ' := []) (.cons rfl (.refl _) (.nil _)) (.nil _) ?_
   exact ak_ret (fn := Tryz.f76) Tryz.func76 rfl trivial rfl
  ·have h := cond_f ht h
   refine ak_skip ?_
   refine ak_seq ?_
   obtain ⟨v2, hv2, h⟩ := bind_of h
   refine ak_regionS (.cons rfl (ok_fieldV (dlt rfl rfl) rfl fo29_0 ty3 (by decide) rfl) (.cons rfl (ok_loadV (dlt rfl rfl) rfl ty3 rfl rfl rfl) (.cons rfl (ok_eql (dlt rfl rfl) rfl rfl rfl) (.cons rfl (ok_move (dlt rfl rfl) rfl rfl) (.consG (pre := []) (dlt rfl rfl) rfl rfl rfl rfl .nil (fun he => ok_fieldV (dlt rfl rfl) rfl fo49_0 ty3 (by decide) rfl) (.consG (pre := [(32, .ref 5 0)]) (dlt rfl rfl) rfl rfl rfl rfl (.cons rfl (fun he => he) .nil) (fun he => ok_loadV (dlt rfl rfl) rfl ty3 rfl rfl rfl) (.consG (pre := [(33, .int .i64 a2.kind)]) (dlt rfl rfl) rfl rfl rfl rfl (.cons rfl (fun he => he) .nil) (fun he => ok_eql (dlt rfl rfl) rfl rfl rfl) (.consG (pre := [(34, .bool (a2.kind == (1 : Int)))]) (dlt rfl rfl) rfl rfl rfl rfl (.cons rfl (fun he => he) .nil) (fun he => ok_move (dlt rfl rfl) rfl rfl) (.consG (pre := []) (dlt rfl rfl) rfl rfl rfl rfl .nil (fun he => ok_loadVT (dlt rfl rfl) rfl ty49 rfl rfl (by decide) rfl) (.consG (pre := []) (dlt rfl rfl) rfl rfl rfl rfl .nil (fun he => ok_move (dlt rfl rfl) rfl rfl) (.consG (pre := []) (dlt rfl rfl) rfl rfl rfl rfl .nil (fun he => ok_fieldV (dlt rfl rfl) rfl fo29_4 ty26 (by decide) rfl) (.consG (pre := [(38, .ref 3 4)]) (dlt rfl rfl) rfl rfl rfl rfl (.cons rfl (fun he => he) .nil) (fun he => ok_loadV (dlt rfl rfl) rfl ty26 rfl rfl rfl) (.consG (pre := [(39, .sl Ty.sApiValue a0.items)]) (dlt rfl rfl) rfl rfl rfl rfl (.cons rfl (fun he => he) .nil) (fun he => ok_lenS (τ := Ty.sApiValue) (xs := a0.items) (dlt rfl rfl) rfl Tryz.underlying26 rfl) (.consG (pre := [(36, .agg [.int .i64 a2.kind, .str a2.name, .int .i64 a2.index, .int .i64 a2.start, .int .i64 a2.stop, .bool a2.hasStart, .bool a2.hasEnd, .int .i64 a2.stride]), (37, .int .i64 a1), (40, .int .i64 (a0.items.length : Int))]) (dlt rfl rfl) rfl rfl rfl rfl (.cons rfl (fun he => he) (.cons rfl (fun he => he) (.cons rfl (fun he => he) .nil))) (fun he => ok_call (xs := [.agg [.int .i64 a2.kind, .str a2.name, .int .i64 a2.index, .int .i64 a2.start, .int .i64 a2.stop, .bool a2.hasStart, .bool a2.hasEnd, .int .i64 a2.stride], .int .i64 a1, .int .i64 (a0.items.length : Int)]) (caps := []) (dlt rfl rfl) rfl rfl Tryz.func128 rfl rfl rfl (d128 (gd_t hv2 he)) rfl) (.consG (pre := [(35, .bool (a2.kind == (1 : Int)))]) (dlt rfl rfl) rfl rfl rfl rfl (.cons rfl (fun he => he) .nil) (fun he => ok_orW (dlt rfl rfl) rfl rfl rfl (fun h => band_i he (bnot_t h))) (.cons rfl (ok_andW (dlt rfl rfl) rfl rfl rfl (fun h => h)) (.cons rfl (ok_assign (dlt rfl rfl) rfl rfl) (.nil ?_))))))))))))))))))
   obtain rfl := Option.some.inj h
   refine ak_conv (Γ' := [(6, .bool ((a0.kind == (4 : Int)) && ((a2.kind == (1 : Int)) || v2)))]) (σ' := []) (.cons rfl (.refl _) (.nil _)) (.nil _) ?_
   exact ak_ret (fn := Tryz.f76) Tryz.func76 rfl trivial rfl)
theorem d76 {a0 : ApiValue} {a1 : Int} {a2 : ApiSelector} {r : Bool} (h : f76 (.e76 a0 a1 a2) = some r) : Does Tryz.prog GG 76 [.agg [.int .i64 a0.kind, .int .i64 a0.frm, .int .i64 a0.to, .str a0.text, .sl Ty.sApiValue a0.items, .sl Ty.str a0.names], .int .i64 a1, .agg [.int .i64 a2.kind, .str a2.name, .int .i64 a2.index, .int .i64 a2.start, .int .i64 a2.stop, .bool a2.hasStart, .bool a2.hasEnd, .int .i64 a2.stride]] [] (fun z _ => z = .bool r) := fn_of (fn := Tryz.f76) Tryz.func76 rfl Tryz.ntmps76 rfl (w76 _ _ h)
/-- riffle/riffleref16.Children -/
noncomputable abbrev b23 : Code := codeOf Tryz.f23
inductive L23 where
 | e23 (a0 : ApiValue) (a1 : ApiSelector)
 | l23_0 (a0 : Int) (a1 : Int) (a2 : List Int) (a3 : ApiSelector) (a4 : ApiValue)
 | l23_1 (a0 : Int) (a1 : Int) (a2 : List Int) (a3 : ApiSelector) (a4 : ApiValue)
 | l23_2 (a0 : Int) (a1 : Int) (a2 : List Int) (a3 : ApiSelector) (a4 : ApiValue)
noncomputable def f23 : L23 → Option (List Int)
 | .e23 a0 a1 =>
  f23 (.l23_0 (a0.items.length : Int) (0 : Int) ([] : List Int) a1 a0)
 | .l23_0 a0 a1 a2 a3 a4 =>
  if (decide (a1 < a0)) = true then
   f76 (.e76 a4 a1 a3) >>= fun v1 =>
   if (!v1) = true then
    f23 (.l23_1 a0 a1 a2 a3 a4)
   else
    if ((a3.kind == (3 : Int)) && (decide (a3.stride < (0 : Int)))) = true then
     room ([a1] : List Int).length a2.length 8 >>= fun v2 =>
     f23 (.l23_2 a0 a1 (([a1] : List Int) ++ a2) a3 a4)
    else
     room a2.length ([a1] : List Int).length 8 >>= fun v3 =>
     f23 (.l23_2 a0 a1 (a2 ++ ([a1] : List Int)) a3 a4)
  else
   some a2
 | .l23_1 a0 a1 a2 a3 a4 =>
  f23 (.l23_0 a0 (IntKind.wrap .i64 (a1 + (1 : Int))) a2 a3 a4)
 | .l23_2 a0 a1 a2 a3 a4 =>
  f23 (.l23_0 a0 (IntKind.wrap .i64 (a1 + (1 : Int))) a2 a3 a4)
 partial_fixpoint
def M23 : L23 → (List Int) → Prop
 | .e23 a0 a1, r => ∀ (w : World) (F : Nat → Prop) (ρ : Rho), AK Tryz.prog (ctx GG 37 w F ρ []) 23 [.code b23] (argE 0 [.agg [.int .i64 a0.kind, .int .i64 a0.frm, .int .i64 a0.to, .str a0.text, .sl Ty.sApiValue a0.items, .sl Ty.str a0.names], .agg [.int .i64 a1.kind, .str a1.name, .int .i64 a1.index, .int .i64 a1.start, .int .i64 a1.stop, .bool a1.hasStart, .bool a1.hasEnd, .int .i64 a1.stride]]) [] (fun z _ => z = .sl Ty.i64 r)
 | .l23_0 a0 a1 a2 a3 a4, r => ∀ (w : World) (F : Nat → Prop) (ρ : Rho), AK Tryz.prog (ctx GG 37 w F ρ []) 23 [.code (c1 (c1 (c2 (c1 (c2 (c2 b23)))))), .inLoop (c1 (c1 (c2 (c1 (c2 (c2 b23)))))), .inBlock 0, .code (c2 (c2 (c2 b23)))] [(2, .ref 2 0), (3, .ref 3 0), (5, .mf 1 2007), (10, .int .i64 a0), (11, .int .i64 a1)] [(2007, .arr 3 Ty.i64 a2), (3, .cells 49 [.int .i64 a3.kind, .str a3.name, .int .i64 a3.index, .int .i64 a3.start, .int .i64 a3.stop, .bool a3.hasStart, .bool a3.hasEnd, .int .i64 a3.stride]), (2, .cells 29 [.int .i64 a4.kind, .int .i64 a4.frm, .int .i64 a4.to, .str a4.text, .sl Ty.sApiValue a4.items, .sl Ty.str a4.names])] (fun z _ => z = .sl Ty.i64 r)
 | .l23_1 a0 a1 a2 a3 a4, r => ∀ (w : World) (F : Nat → Prop) (ρ : Rho), AK Tryz.prog (ctx GG 37 w F ρ []) 23 [.code (c2 (c2 (c2 (c1 (c1 (c2 (c1 (c2 (c2 b23))))))))), .inLoop (c1 (c1 (c2 (c1 (c2 (c2 b23)))))), .inBlock 0, .code (c2 (c2 (c2 b23)))] [(2, .ref 2 0), (3, .ref 3 0), (5, .mf 1 2007), (10, .int .i64 a0), (11, .int .i64 a1)] [(2007, .arr 3 Ty.i64 a2), (3, .cells 49 [.int .i64 a3.kind, .str a3.name, .int .i64 a3.index, .int .i64 a3.start, .int .i64 a3.stop, .bool a3.hasStart, .bool a3.hasEnd, .int .i64 a3.stride]), (2, .cells 29 [.int .i64 a4.kind, .int .i64 a4.frm, .int .i64 a4.to, .str a4.text, .sl Ty.sApiValue a4.items, .sl Ty.str a4.names])] (fun z _ => z = .sl Ty.i64 r)
 | .l23_2 a0 a1 a2 a3 a4, r => ∀ (w : World) (F : Nat → Prop) (ρ : Rho), AK Tryz.prog (ctx GG 37 w F ρ []) 23 [.inBlock 1, .code (c2 (c2 (c2 (c1 (c1 (c2 (c1 (c2 (c2 b23))))))))), .inLoop (c1 (c1 (c2 (c1 (c2 (c2 b23)))))), .inBlock 0, .code (c2 (c2 (c2 b23)))] [(2, .ref 2 0), (3, .ref 3 0), (5, .mf 1 2028), (10, .int .i64 a0), (11, .int .i64 a1)] [(2028, .arr 3 Ty.i64 a2), (3, .cells 49 [.int .i64 a3.kind, .str a3.name, .int .i64 a3.index, .int .i64 a3.start, .int .i64 a3.stop, .bool a3.hasStart, .bool a3.hasEnd, .int .i64 a3.stride]), (2, .cells 29 [.int .i64 a4.kind, .int .i64 a4.frm, .int .i64 a4.to, .str a4.text, .sl Ty.sApiValue a4.items, .sl Ty.str a4.names])] (fun z _ => z = .sl Ty.i64 r)
theorem w23 : ∀ (l : L23) (r : List Int), f23 l = some r → M23 l r := f23.partial_correctness M23 (by
 intro f ih l r h
 cases l with
 | e23 a0 a1 =>
  intro w F ρ
  dsimp only at h
  refine ak_seq ?_
  refine ak_regionS (.cons rfl (ok_box (d := 2) (dlt rfl rfl) rfl rfl rfl rfl rfl) (.cons rfl (ok_box (d := 3) (dlt rfl rfl) rfl rfl rfl rfl rfl) (.cons rfl (ok_assign (dlt rfl rfl) rfl rfl) (.nil ?_))))
  refine ak_seq ?_
  refine ak_regionS (.cons rfl (ok_litM0 (d := 2007) (dlt rfl rfl) Ty.i64 rfl rfl Tryz.underlying50 ty3 rfl rfl) (.cons rfl (ok_assign (dlt rfl rfl) rfl rfl) (.nil ?_)))
  refine ak_seq ?_
  refine ak_seq ?_
  refine ak_regionS (.cons rfl (ok_fieldV (dlt rfl rfl) rfl fo29_4 ty26 (by decide) rfl) (.cons rfl (ok_loadV (dlt rfl rfl) rfl ty26 rfl rfl rfl) (.cons rfl (ok_lenS (τ := Ty.sApiValue) (xs := a0.items) (dlt rfl rfl) rfl Tryz.underlying26 rfl) (.cons rfl (ok_move (dlt rfl rfl) rfl rfl) (.nil ?_)))))
  refine ak_block ?_
  refine ak_loop ?_
  exact ak_conv (.cons rfl (.refl _) (.cons rfl (.refl _) (.cons rfl (.refl _) (.cons rfl (.refl _) (.cons rfl (.refl _) (.nil _)))))) (.cons rfl (.refl _) (.cons rfl (.refl _) (.cons rfl (.refl _) (.nil _)))) (ih _ _ h w F ρ)
 | l23_0 a0 a1 a2 a3 a4 =>
  intro w F ρ
  dsimp only at h
  refine ak_seq ?_
  refine ak_regionS (.cons rfl (ok_lss (dlt rfl rfl) rfl rfl rfl) (.nil ?_))
  refine ak_seq ?_
  refine ak_cond rfl (fun ht => ?_) (fun ht => ?_)
  ·have h := cond_t ht h
   refine ak_skip ?_
   refine ak_seq ?_
   refine ak_block ?_
   refine ak_seq ?_
   refine ak_regionS (.cons rfl (ok_move (dlt rfl rfl) rfl rfl) (.cons rfl (ok_assign (dlt rfl rfl) rfl rfl) (.nil ?_)))
   refine ak_seq ?_
   refine ak_seq ?_
   obtain ⟨v1, hv1, h⟩ := bind_of h
   refine ak_regionS (.cons rfl (ok_loadVT (dlt rfl rfl) rfl ty29 rfl rfl (by decide) rfl) (.cons rfl (ok_move (dlt rfl rfl) rfl rfl) (.cons rfl (ok_loadVT (dlt rfl rfl) rfl ty49 rfl rfl (by decide) rfl) (.cons rfl (ok_call (xs := [.agg [.int .i64 a4.kind, .int .i64 a4.frm, .int .i64 a4.to, .str a4.text, .sl Ty.sApiValue a4.items, .sl Ty.str a4.names], .int .i64 a1, .agg [.int .i64 a3.kind, .str a3.name, .int .i64 a3.index, .int .i64 a3.start, .int .i64 a3.stop, .bool a3.hasStart, .bool a3.hasEnd, .int .i64 a3.stride]]) (caps := []) (dlt rfl rfl) rfl rfl Tryz.func76 rfl rfl rfl (d76 hv1) rfl) (.cons rfl (ok_not (dlt rfl rfl) rfl rfl) (.nil ?_))))))
   refine ak_cond rfl (fun ht => ?_) (fun ht => ?_)
   ·have h := cond_t ht h
    refine ak_exit rfl ?_
    exact ak_conv (.cons rfl (.refl _) (.cons rfl (.refl _) (.cons rfl (.refl _) (.cons rfl (.refl _) (.cons rfl (.refl _) (.nil _)))))) (.cons rfl (.refl _) (.cons rfl (.refl _) (.cons rfl (.refl _) (.nil _)))) (ih _ _ h w F ρ)
   ·have h := cond_f ht h
    refine ak_skip ?_
    refine ak_seq ?_
    refine ak_regionS (.cons rfl (ok_fieldV (dlt rfl rfl) rfl fo49_0 ty3 (by decide) rfl) (.cons rfl (ok_loadV (dlt rfl rfl) rfl ty3 rfl rfl rfl) (.cons rfl (ok_eql (dlt rfl rfl) rfl rfl rfl) (.cons rfl (ok_move (dlt rfl rfl) rfl rfl) (.consG (pre := []) (dlt rfl rfl) rfl rfl rfl rfl .nil (fun he => ok_fieldV (dlt rfl rfl) rfl fo49_7 ty3 (by decide) rfl) (.consG (pre := [(23, .ref 3 7)]) (dlt rfl rfl) rfl rfl rfl rfl (.cons rfl (fun he => he) .nil) (fun he => ok_loadV (dlt rfl rfl) rfl ty3 rfl rfl rfl) (.consG (pre := [(24, .int .i64 a3.stride)]) (dlt rfl rfl) rfl rfl rfl rfl (.cons rfl (fun he => he) .nil) (fun he => ok_lss (dlt rfl rfl) rfl rfl rfl) (.cons rfl (ok_andW (dlt rfl rfl) rfl rfl rfl (fun h => h)) (.nil ?_)))))))))
    refine ak_cond rfl (fun ht => ?_) (fun ht => ?_)
    ·have h := cond_t ht h
     obtain ⟨v2, hv2, h⟩ := bind_of h
     refine ak_regionS (.cons rfl (ok_move (dlt rfl rfl) rfl rfl) (.cons rfl (ok_litM (d := 2028) (τ := Ty.i64) (dlt rfl rfl) ([a1] : List Int) rfl Tryz.underlying50 ty3 rfl rfl rfl rfl rfl (by decide) (by decide) rfl (.cons (.refl _) (.nil)) rfl rfl) (.cons rfl (ok_move (dlt rfl rfl) rfl rfl) (.cons rfl (ok_appendA (τ := Ty.i64) (xs := ([a1] : List Int)) (ys := a2) (dlt rfl rfl) rfl Tryz.underlying50 ty3 rfl rfl rfl rfl rfl (room_1 hv2) (room_2 hv2)) (.cons rfl (ok_assign (dlt rfl rfl) rfl rfl) (.nil ?_))))))
     exact ak_conv (.cons rfl (.refl _) (.cons rfl (.refl _) (.cons rfl (.refl _) (.cons rfl (.refl _) (.cons rfl (.refl _) (.nil _)))))) (.cons rfl (.refl _) (.cons rfl (.refl _) (.cons rfl (.refl _) (.nil _)))) (ih _ _ h w F ρ)
    ·have h := cond_f ht h
     obtain ⟨v3, hv3, h⟩ := bind_of h
     refine ak_regionS (.cons rfl (ok_move (dlt rfl rfl) rfl rfl) (.cons rfl (ok_move (dlt rfl rfl) rfl rfl) (.cons rfl (ok_lit (τ := Ty.i64) (dlt rfl rfl) ([a1] : List Int) rfl Tryz.underlying50 ty3 rfl rfl rfl rfl rfl (by decide) (by decide) rfl) (.cons rfl (ok_appendF (τ := Ty.i64) (xs := a2) (ys := ([a1] : List Int)) (dlt rfl rfl) rfl Tryz.underlying50 ty3 rfl rfl rfl rfl (room_1 hv3) (room_2 hv3)) (.cons rfl (ok_assign (dlt rfl rfl) rfl rfl) (.nil ?_))))))
     refine ak_conv (Γ' := [(2, .ref 2 0), (3, .ref 3 0), (5, .mf 1 2007), (10, .int .i64 a0), (11, .int .i64 a1)]) (σ' := [(2007, .arr 3 Ty.i64 (a2 ++ ([a1] : List Int))), (3, .cells 49 [.int .i64 a3.kind, .str a3.name, .int .i64 a3.index, .int .i64 a3.start, .int .i64 a3.stop, .bool a3.hasStart, .bool a3.hasEnd, .int .i64 a3.stride]), (2, .cells 29 [.int .i64 a4.kind, .int .i64 a4.frm, .int .i64 a4.to, .str a4.text, .sl Ty.sApiValue a4.items, .sl Ty.str a4.names])]) (.cons rfl (.refl _) (.cons rfl (.refl _) (.cons rfl (.refl _) (.cons rfl (.refl _) (.cons rfl (.refl _) (.nil _)))))) (.cons rfl (.refl _) (.cons rfl (.refl _) (.cons rfl (.refl _) (.nil _)))) ?_
     refine ak_ren 2007 2028 rfl rfl rfl rfl ?_
     exact ak_conv (.cons rfl (.refl _) (.cons rfl (.refl _) (.cons rfl (.refl _) (.cons rfl (.refl _) (.cons rfl (.refl _) (.nil _)))))) (.cons rfl (.refl _) (.cons rfl (.refl _) (.cons rfl (.refl _) (.nil _)))) (ih _ _ h w F ρ)
  ·have h := cond_f ht h
   refine ak_exit rfl ?_
   refine ak_seq ?_
   refine ak_regionS (.cons rfl (ok_move (dlt rfl rfl) rfl rfl) (.cons rfl (ok_assign (dlt rfl rfl) rfl rfl) (.nil ?_)))
   obtain rfl := Option.some.inj h
   refine ak_freeze 2007 rfl ?_
   refine ak_conv (Γ' := [(4, .sl Ty.i64 a2)]) (σ' := []) (.cons rfl (.refl _) (.nil _)) (.nil _) ?_
   exact ak_ret (fn := Tryz.f23) Tryz.func23 rfl trivial rfl
 | l23_1 a0 a1 a2 a3 a4 =>
  intro w F ρ
  dsimp only at h
  refine ak_regionS (.cons rfl (ok_add (dlt rfl rfl) rfl rfl rfl) (.cons rfl (ok_move (dlt rfl rfl) rfl rfl) (.nil ?_)))
  refine ak_inLoop ?_
  exact ak_conv (.cons rfl (.refl _) (.cons rfl (.refl _) (.cons rfl (.refl _) (.cons rfl (.refl _) (.cons rfl (.refl _) (.nil _)))))) (.cons rfl (.refl _) (.cons rfl (.refl _) (.cons rfl (.refl _) (.nil _)))) (ih _ _ h w F ρ)
 | l23_2 a0 a1 a2 a3 a4 =>
  intro w F ρ
  dsimp only at h
  refine ak_inBlock ?_
  refine ak_regionS (.cons rfl (ok_add (dlt rfl rfl) rfl rfl rfl) (.cons rfl (ok_move (dlt rfl rfl) rfl rfl) (.nil ?_)))
  refine ak_inLoop ?_
  refine ak_conv (Γ' := [(2, .ref 2 0), (3, .ref 3 0), (5, .mf 1 2028), (10, .int .i64 a0), (11, .int .i64 (IntKind.wrap .i64 (a1 + (1 : Int))))]) (σ' := [(2028, .arr 3 Ty.i64 a2), (3, .cells 49 [.int .i64 a3.kind, .str a3.name, .int .i64 a3.index, .int .i64 a3.start, .int .i64 a3.stop, .bool a3.hasStart, .bool a3.hasEnd, .int .i64 a3.stride]), (2, .cells 29 [.int .i64 a4.kind, .int .i64 a4.frm, .int .i64 a4.to, .str a4.text, .sl Ty.sApiValue a4.items, .sl Ty.str a4.names])]) (.cons rfl (.refl _) (.cons rfl (.refl _) (.cons rfl (.refl _) (.cons rfl (.refl _) (.cons rfl (.refl _) (.nil _)))))) (.cons rfl (.refl _) (.cons rfl (.refl _) (.cons rfl (.refl _) (.nil _)))) ?_
  refine ak_ren 2028 2007 rfl rfl rfl rfl ?_
  exact ak_conv (.cons rfl (.refl _) (.cons rfl (.refl _) (.cons rfl (.refl _) (.cons rfl (.refl _) (.cons rfl (.refl _) (.nil _)))))) (.cons rfl (.refl _) (.cons rfl (.refl _) (.cons rfl (.refl _) (.nil _)))) (ih _ _ h w F ρ))
theorem d23 {a0 : ApiValue} {a1 : ApiSelector} {r : List Int} (h : f23 (.e23 a0 a1) = some r) : Does Tryz.prog GG 23 [.agg [.int .i64 a0.kind, .int .i64 a0.frm, .int .i64 a0.to, .str a0.text, .sl Ty.sApiValue a0.items, .sl Ty.str a0.names], .agg [.int .i64 a1.kind, .str a1.name, .int .i64 a1.index, .int .i64 a1.start, .int .i64 a1.stop, .bool a1.hasStart, .bool a1.hasEnd, .int .i64 a1.stride]] [] (fun z _ => z = .sl Ty.i64 r) := fn_of (fn := Tryz.f23) Tryz.func23 rfl Tryz.ntmps23 rfl (w23 _ _ h)
/-- riffle/riffleref16.Step -/
noncomputable abbrev b136 : Code := codeOf Tryz.f136
inductive L136 where
 | e136 (a0 : ApiValue) (a1 : Int)
noncomputable def f136 : L136 → Option ApiStep
 | .e136 a0 a1 =>
  if (a0.kind == (5 : Int)) = true then
   idx a0.names a1 >>= fun v1 =>
   some (⟨true, v1, 0⟩ : ApiStep)
  else
   some (⟨false, [], a1⟩ : ApiStep)
def M136 : L136 → ApiStep → Prop
 | .e136 a0 a1, r => ∀ (w : World) (F : Nat → Prop) (ρ : Rho), AK Tryz.prog (ctx GG 16 w F ρ []) 136 [.code b136] (argE 0 [.agg [.int .i64 a0.kind, .int .i64 a0.frm, .int .i64 a0.to, .str a0.text, .sl Ty.sApiValue a0.items, .sl Ty.str a0.names], .int .i64 a1]) [] (fun z _ => z = .agg [.bool r.named, .str r.name, .int .i64 r.index])
theorem w136 : ∀ (l : L136) (r : ApiStep), f136 l = some r → M136 l r := (by
 intro l r h
 cases l with
 | e136 a0 a1 =>
  intro w F ρ
  dsimp only [f136] at h
  refine ak_seq ?_
  refine ak_regionS (.cons rfl (ok_box (d := 2) (dlt rfl rfl) rfl rfl rfl rfl rfl) (.cons rfl (ok_alloc (d := 4) (dlt rfl rfl) rfl ty121 rfl rfl rfl) (.nil ?_)))
  refine ak_seq ?_
  refine ak_seq ?_
  refine ak_regionS (.cons rfl (ok_fieldV (dlt rfl rfl) rfl fo29_0 ty3 (by decide) rfl) (.cons rfl (ok_loadV (dlt rfl rfl) rfl ty3 rfl rfl rfl) (.cons rfl (ok_eql (dlt rfl rfl) rfl rfl rfl) (.nil ?_))))
  refine ak_cond rfl (fun ht => ?_) (fun ht => ?_)
  ·have h := cond_t ht h
   refine ak_seq ?_
   obtain ⟨v1, hv1, h⟩ := bind_of h
   refine ak_regionS (.cons rfl (ok_fieldV (dlt rfl rfl) rfl fo29_5 ty27 (by decide) rfl) (.cons rfl (ok_loadV (dlt rfl rfl) rfl ty27 rfl rfl rfl) (.cons rfl (ok_move (dlt rfl rfl) rfl rfl) (.cons rfl (ok_indexS (τ := Ty.str) (x := v1) (dlt rfl rfl) rfl Tryz.underlying27 ty9 rfl rfl rfl (idx_0 hv1) (idx_1 hv1)) (.cons rfl (ok_loadR (dlt rfl rfl) rfl ty9 rfl rfl) (.cons rfl (ok_build (dlt rfl rfl) rfl ty121 rfl pl121 rfl rfl rfl) (.cons rfl (ok_storeV rfl rfl ty121 rfl rfl rfl rfl (by decide) rfl rfl) (.nil ?_))))))))
   obtain rfl := Option.some.inj h
   refine ak_conv (Γ' := [(4, .ref 4 0)]) (σ' := [(4, .cells 121 [.bool ((⟨true, v1, 0⟩ : ApiStep).named), .str ((⟨true, v1, 0⟩ : ApiStep).name), .int .i64 ((⟨true, v1, 0⟩ : ApiStep).index)])]) (.cons rfl (.refl _) (.nil _)) (.cons rfl (.refl _) (.nil _)) ?_
   exact ak_ret (fn := Tryz.f136) Tryz.func136 rfl ⟨⟨_, _, _, _, _, _, rfl, rfl, ty121⟩, trivial⟩ rfl
  ·have h := cond_f ht h
   refine ak_skip ?_
   refine ak_seq ?_
   refine ak_regionS (.cons rfl (ok_move (dlt rfl rfl) rfl rfl) (.cons rfl (ok_build (dlt rfl rfl) rfl ty121 rfl pl121 rfl rfl rfl) (.cons rfl (ok_storeV rfl rfl ty121 rfl rfl rfl rfl (by decide) rfl rfl) (.nil ?_))))
   obtain rfl := Option.some.inj h
   refine ak_conv (Γ' := [(4, .ref 4 0)]) (σ' := [(4, .cells 121 [.bool ((⟨false, [], a1⟩ : ApiStep).named), .str ((⟨false, [], a1⟩ : ApiStep).name), .int .i64 ((⟨false, [], a1⟩ : ApiStep).index)])]) (.cons rfl (.refl _) (.nil _)) (.cons rfl (.refl _) (.nil _)) ?_
   exact ak_ret (fn := Tryz.f136) Tryz.func136 rfl ⟨⟨_, _, _, _, _, _, rfl, rfl, ty121⟩, trivial⟩ rfl)
theorem d136 {a0 : ApiValue} {a1 : Int} {r : ApiStep} (h : f136 (.e136 a0 a1) = some r) : Does Tryz.prog GG 136 [.agg [.int .i64 a0.kind, .int .i64 a0.frm, .int .i64 a0.to, .str a0.text, .sl Ty.sApiValue a0.items, .sl Ty.str a0.names], .int .i64 a1] [] (fun z _ => z = .agg [.bool r.named, .str r.name, .int .i64 r.index]) := fn_of (fn := Tryz.f136) Tryz.func136 rfl Tryz.ntmps136 rfl (w136 _ _ h)
end Go.Proofs.YtonlbdholdaifaaGreatDoor
end
section
set_option linter.unusedVariables false
set_option linter.unusedSimpArgs false
set_option maxRecDepth 10000
namespace Go.Proofs.YtonlbdholdaifaaGreatDoor
open Go Go.Rf Go.Proofs
/-- riffle/riffleref16.Item -/
noncomputable abbrev b81 : Code := codeOf Tryz.f81
inductive L81 where
 | e81 (a0 : Ref16Node) (a1 : Int)
noncomputable def f81 : L81 → Option Ref16Node
 | .e81 a0 a1 =>
  idx a0.value.items a1 >>= fun v1 =>
  room ([] : List ApiStep).length a0.steps.length 32 >>= fun v2 =>
  f136 (.e136 a0.value a1) >>= fun v3 =>
  room (([] : List ApiStep) ++ a0.steps).length ([v3] : List ApiStep).length 32 >>= fun v4 =>
  some (⟨v1, ((([] : List ApiStep) ++ a0.steps) ++ ([v3] : List ApiStep))⟩ : Ref16Node)
def M81 : L81 → Ref16Node → Prop
 | .e81 a0 a1, r => ∀ (w : World) (F : Nat → Prop) (ρ : Rho), AK Tryz.prog (ctx GG 22 w F ρ []) 81 [.code b81] (argE 0 [.agg [.int .i64 a0.value.kind, .int .i64 a0.value.frm, .int .i64 a0.value.to, .str a0.value.text, .sl Ty.sApiValue a0.value.items, .sl Ty.str a0.value.names, .sl Ty.sApiStep a0.steps], .int .i64 a1]) [] (fun z _ => z = .agg [.int .i64 r.value.kind, .int .i64 r.value.frm, .int .i64 r.value.to, .str r.value.text, .sl Ty.sApiValue r.value.items, .sl Ty.str r.value.names, .sl Ty.sApiStep r.steps])
theorem w81 : ∀ (l : L81) (r : Ref16Node), f81 l = some r → M81 l r := (by
 intro l r h
 cases l with
 | e81 a0 a1 =>
  intro w F ρ
  dsimp only [f81] at h
  refine ak_seq ?_
  refine ak_regionS (.cons rfl (ok_box (d := 2) (dlt rfl rfl) rfl rfl rfl rfl rfl) (.cons rfl (ok_alloc (d := 4) (dlt rfl rfl) rfl ty64 rfl rfl rfl) (.nil ?_)))
  refine ak_seq ?_
  obtain ⟨v1, hv1, h⟩ := bind_of h
  obtain ⟨v2, hv2, h⟩ := bind_of h
  obtain ⟨v3, hv3, h⟩ := bind_of h
  obtain ⟨v4, hv4, h⟩ := bind_of h
  refine ak_drawL [⟨some 5, [(2, .ref 2 0)], none, true, .ref 2 0, [], []⟩,
  ⟨some 6, [(5, .ref 2 0)], none, true, .ref 2 4, [], []⟩,
  ⟨some 7, [(6, .ref 2 4)], none, true, .sl Ty.sApiValue a0.value.items, [(2, .cells 64 [.int .i64 a0.value.kind, .int .i64 a0.value.frm, .int .i64 a0.value.to, .str a0.value.text, .sl Ty.sApiValue a0.value.items, .sl Ty.str a0.value.names, .sl Ty.sApiStep a0.steps])], []⟩,
  ⟨some 8, [(1, .int .i64 a1)], none, true, .int .i64 a1, [], []⟩,
  ⟨some 9, [(7, .sl Ty.sApiValue a0.value.items), (8, .int .i64 a1)], none, true, .rp [.int .i64 v1.kind, .int .i64 v1.frm, .int .i64 v1.to, .str v1.text, .sl Ty.sApiValue v1.items, .sl Ty.str v1.names], [], []⟩,
  ⟨some 10, [(9, .rp [.int .i64 v1.kind, .int .i64 v1.frm, .int .i64 v1.to, .str v1.text, .sl Ty.sApiValue v1.items, .sl Ty.str v1.names])], none, true, .agg [.int .i64 v1.kind, .int .i64 v1.frm, .int .i64 v1.to, .str v1.text, .sl Ty.sApiValue v1.items, .sl Ty.str v1.names], [], []⟩,
  ⟨some 11, [], none, true, .mf 3 2011, [], [(2011, .arr 121 Ty.sApiStep ([] : List ApiStep))]⟩,
  ⟨some 12, [(2, .ref 2 0)], none, true, .ref 2 6, [], []⟩,
  ⟨some 13, [(12, .ref 2 6)], none, true, .sl Ty.sApiStep a0.steps, [(2, .cells 64 [.int .i64 a0.value.kind, .int .i64 a0.value.frm, .int .i64 a0.value.to, .str a0.value.text, .sl Ty.sApiValue a0.value.items, .sl Ty.str a0.value.names, .sl Ty.sApiStep a0.steps])], []⟩,
  ⟨some 14, [(11, .mf 3 2011), (13, .sl Ty.sApiStep a0.steps)], none, true, .mf 3 3014, [(2011, .arr 121 Ty.sApiStep ([] : List ApiStep))], [(3014, .arr 121 Ty.sApiStep (([] : List ApiStep) ++ a0.steps)), (2011, .dead)]⟩,
  ⟨some 15, [(2, .ref 2 0)], none, true, .ref 2 0, [], []⟩,
  ⟨some 16, [(15, .ref 2 0)], none, true, .agg [.int .i64 a0.value.kind, .int .i64 a0.value.frm, .int .i64 a0.value.to, .str a0.value.text, .sl Ty.sApiValue a0.value.items, .sl Ty.str a0.value.names], [(2, .cells 64 [.int .i64 a0.value.kind, .int .i64 a0.value.frm, .int .i64 a0.value.to, .str a0.value.text, .sl Ty.sApiValue a0.value.items, .sl Ty.str a0.value.names, .sl Ty.sApiStep a0.steps])], []⟩,
  ⟨some 17, [(1, .int .i64 a1)], none, true, .int .i64 a1, [], []⟩,
  ⟨some 18, [(16, .agg [.int .i64 a0.value.kind, .int .i64 a0.value.frm, .int .i64 a0.value.to, .str a0.value.text, .sl Ty.sApiValue a0.value.items, .sl Ty.str a0.value.names]), (17, .int .i64 a1)], none, true, .agg [.bool v3.named, .str v3.name, .int .i64 v3.index], [], []⟩,
  ⟨some 19, [(18, .agg [.bool v3.named, .str v3.name, .int .i64 v3.index])], none, true, .sf Ty.sApiStep ([v3] : List ApiStep), [], []⟩,
  ⟨some 20, [(14, .mf 3 3014), (19, .sf Ty.sApiStep ([v3] : List ApiStep))], none, true, .mf 3 3020, [(3014, .arr 121 Ty.sApiStep (([] : List ApiStep) ++ a0.steps))], [(3020, .arr 121 Ty.sApiStep ((([] : List ApiStep) ++ a0.steps) ++ ([v3] : List ApiStep))), (3014, .dead)]⟩,
  ⟨some 21, [(10, .agg [.int .i64 v1.kind, .int .i64 v1.frm, .int .i64 v1.to, .str v1.text, .sl Ty.sApiValue v1.items, .sl Ty.str v1.names]), (20, .mf 3 3020)], none, true, .agg [.int .i64 v1.kind, .int .i64 v1.frm, .int .i64 v1.to, .str v1.text, .sl Ty.sApiValue v1.items, .sl Ty.str v1.names, .mf 3 3020], [], []⟩,
  ⟨none, [(4, .ref 4 0), (21, .agg [.int .i64 v1.kind, .int .i64 v1.frm, .int .i64 v1.to, .str v1.text, .sl Ty.sApiValue v1.items, .sl Ty.str v1.names, .mf 3 3020])], none, true, .undef, [(4, .cells 64 [.int .i64 (0 : Int), .int .i64 (0 : Int), .int .i64 (0 : Int), .str [], .nils, .nils, .nils])], [(4, .cells 64 [.int .i64 v1.kind, .int .i64 v1.frm, .int .i64 v1.to, .str v1.text, .sl Ty.sApiValue v1.items, .sl Ty.str v1.names, .mf 3 3020])]⟩] [[], [0], [0, 1], [], [0, 1, 2, 3], [0, 1, 2, 3, 4], [], [], [7], [6, 7, 8], [], [10], [], [6, 7, 8, 9, 10, 11, 12], [6, 7, 8, 9, 10, 11, 12, 13], [6, 7, 8, 9, 10, 11, 12, 13, 14], [0, 1, 2, 3, 4, 5, 6, 7, 8, 9, 10, 11, 12, 13, 14, 15], [0, 1, 2, 3, 4, 5, 6, 7, 8, 9, 10, 11, 12, 13, 14, 15, 16]] (by kernel_rfl) (by kernel_rfl) (.cons (qok (dlt rfl rfl) rfl (.same rfl .nil) (NeedQ.all .nil) (fun Γx σx => ok_fieldV (dlt rfl rfl) rfl fo64_0 ty29 (by decide) rfl)) (.cons (qok (dlt rfl rfl) rfl (.same rfl .nil) (NeedQ.all .nil) (fun Γx σx => ok_fieldV (dlt rfl rfl) rfl fo29_4 ty26 (by decide) rfl)) (.cons (qok (dlt rfl rfl) rfl (.same rfl .nil) (NeedQ.all (.cons rfl .nil)) (fun Γx σx => ok_loadV (dlt rfl rfl) rfl ty26 rfl rfl rfl)) (.cons (qok (dlt rfl rfl) rfl (.same rfl .nil) (NeedQ.all .nil) (fun Γx σx => ok_move (dlt rfl rfl) rfl rfl)) (.cons (qok (dlt rfl rfl) rfl (.same rfl (.same rfl .nil)) (NeedQ.all .nil) (fun Γx σx => ok_indexS (τ := Ty.sApiValue) (x := v1) (dlt rfl rfl) rfl Tryz.underlying26 ty29 rfl rfl rfl (idx_0 hv1) (idx_1 hv1))) (.cons (qok (dlt rfl rfl) rfl (.same rfl .nil) (NeedQ.all .nil) (fun Γx σx => ok_loadRT (dlt rfl rfl) rfl ty29 rfl (by decide) rfl)) (.cons (qokN (dlt rfl rfl) rfl .nil (NeedQ.all .nil) (fresh1 rfl rfl rfl) (fun Γx σx hfr => ok_litM0 (d := 2011) (dlt rfl rfl) Ty.sApiStep rfl rfl Tryz.underlying38 ty121 (noM_app rfl (fresh2 rfl hfr).1) (noMH_app rfl (fresh2 rfl hfr).2))) (.cons (qok (dlt rfl rfl) rfl (.same rfl .nil) (NeedQ.all .nil) (fun Γx σx => ok_fieldV (dlt rfl rfl) rfl fo64_1 ty38 (by decide) rfl)) (.cons (qok (dlt rfl rfl) rfl (.same rfl .nil) (NeedQ.all (.cons rfl .nil)) (fun Γx σx => ok_loadV (dlt rfl rfl) rfl ty38 rfl rfl rfl)) (.cons (qokN (dlt rfl rfl) rfl (.same rfl (.same rfl .nil)) (NeedQ.all (.cons rfl .nil)) (fresh1 rfl rfl rfl) (fun Γx σx hfr => ok_appendL (τ := Ty.sApiStep) (r := 2011) (xs := ([] : List ApiStep)) (ys := a0.steps) (dlt rfl rfl) 3014 rfl Tryz.underlying38 ty121 rfl rfl rfl rfl (fun F ρ ac w _ h => src_sl h) (room_1 hv2) (room_2 hv2) (noM_app rfl (fresh2 rfl hfr).1) (noMH_app rfl (fresh2 rfl hfr).2))) (.cons (qok (dlt rfl rfl) rfl (.same rfl .nil) (NeedQ.all .nil) (fun Γx σx => ok_fieldV (dlt rfl rfl) rfl fo64_0 ty29 (by decide) rfl)) (.cons (qok (dlt rfl rfl) rfl (.same rfl .nil) (NeedQ.all (.cons rfl .nil)) (fun Γx σx => ok_loadVT (dlt rfl rfl) rfl ty29 rfl rfl (by decide) rfl)) (.cons (qok (dlt rfl rfl) rfl (.same rfl .nil) (NeedQ.all .nil) (fun Γx σx => ok_move (dlt rfl rfl) rfl rfl)) (.cons (qok (dlt rfl rfl) rfl (.same rfl (.same rfl .nil)) (NeedQ.all .nil) (fun Γx σx => ok_call (xs := [.agg [.int .i64 a0.value.kind, .int .i64 a0.value.frm, .int .i64 a0.value.to, .str a0.value.text, .sl Ty.sApiValue a0.value.items, .sl Ty.str a0.value.names], .int .i64 a1]) (caps := []) (dlt rfl rfl) rfl rfl Tryz.func136 rfl rfl rfl (d136 hv3) rfl)) (.cons (qok (dlt rfl rfl) rfl (.same rfl .nil) (NeedQ.all .nil) (fun Γx σx => ok_lit (τ := Ty.sApiStep) (dlt rfl rfl) ([v3] : List ApiStep) rfl Tryz.underlying38 ty121 rfl rfl rfl rfl rfl (by decide) (by decide) rfl)) (.cons (qokN (dlt rfl rfl) rfl (.same rfl (.same rfl .nil)) (NeedQ.all (.cons rfl .nil)) (fresh1 rfl rfl rfl) (fun Γx σx hfr => ok_appendL (τ := Ty.sApiStep) (r := 3014) (xs := (([] : List ApiStep) ++ a0.steps)) (ys := ([v3] : List ApiStep)) (dlt rfl rfl) 3020 rfl Tryz.underlying38 ty121 rfl rfl rfl rfl (fun F ρ ac w _ h => src_sf h) (room_1 hv4) (room_2 hv4) (noM_app rfl (fresh2 rfl hfr).1) (noMH_app rfl (fresh2 rfl hfr).2))) (.cons (qok (dlt rfl rfl) rfl (.same rfl (.same rfl .nil)) (NeedQ.all .nil) (fun Γx σx => ok_build (dlt rfl rfl) rfl ty64 rfl pl64 rfl rfl rfl)) (.cons (qokN (nodst rfl) rfl (.same rfl (.same rfl .nil)) (NeedQ.all (.cons rfl .nil)) (fresh0 rfl) (fun Γx σx hfr => ok_storeV rfl rfl ty64 rfl rfl rfl rfl (by decide) rfl rfl)) (.nil _ _))))))))))))))))))) (.nil ?_)
  obtain rfl := Option.some.inj h
  refine ak_freeze 3020 rfl ?_
  refine ak_conv (Γ' := [(4, .ref 4 0)]) (σ' := [(4, .cells 64 [.int .i64 (((⟨v1, ((([] : List ApiStep) ++ a0.steps) ++ ([v3] : List ApiStep))⟩ : Ref16Node).value).kind), .int .i64 (((⟨v1, ((([] : List ApiStep) ++ a0.steps) ++ ([v3] : List ApiStep))⟩ : Ref16Node).value).frm), .int .i64 (((⟨v1, ((([] : List ApiStep) ++ a0.steps) ++ ([v3] : List ApiStep))⟩ : Ref16Node).value).to), .str (((⟨v1, ((([] : List ApiStep) ++ a0.steps) ++ ([v3] : List ApiStep))⟩ : Ref16Node).value).text), .sl Ty.sApiValue (((⟨v1, ((([] : List ApiStep) ++ a0.steps) ++ ([v3] : List ApiStep))⟩ : Ref16Node).value).items), .sl Ty.str (((⟨v1, ((([] : List ApiStep) ++ a0.steps) ++ ([v3] : List ApiStep))⟩ : Ref16Node).value).names), .sl Ty.sApiStep ((⟨v1, ((([] : List ApiStep) ++ a0.steps) ++ ([v3] : List ApiStep))⟩ : Ref16Node).steps)])]) (.cons rfl (.refl _) (.nil _)) (.cons rfl (.refl _) (.nil _)) ?_
  exact ak_ret (fn := Tryz.f81) Tryz.func81 rfl ⟨⟨_, _, _, _, _, _, rfl, rfl, ty64⟩, trivial⟩ rfl)
theorem d81 {a0 : Ref16Node} {a1 : Int} {r : Ref16Node} (h : f81 (.e81 a0 a1) = some r) : Does Tryz.prog GG 81 [.agg [.int .i64 a0.value.kind, .int .i64 a0.value.frm, .int .i64 a0.value.to, .str a0.value.text, .sl Ty.sApiValue a0.value.items, .sl Ty.str a0.value.names, .sl Ty.sApiStep a0.steps], .int .i64 a1] [] (fun z _ => z = .agg [.int .i64 r.value.kind, .int .i64 r.value.frm, .int .i64 r.value.to, .str r.value.text, .sl Ty.sApiValue r.value.items, .sl Ty.str r.value.names, .sl Ty.sApiStep r.steps]) := fn_of (fn := Tryz.f81) Tryz.func81 rfl Tryz.ntmps81 rfl (w81 _ _ h)
/-- riffle/riffleref16.selects -/
noncomputable abbrev b77 : Code := codeOf Tryz.f77
inductive L77 where
 | e77 (a0 : Ref16Node) (a1 : ApiSegment)
 | l77_0 (a0 : List ApiSelector) (a1 : Int) (a2 : Int) (a3 : List Ref16Node) (a4 : ApiSegment) (a5 : Ref16Node)
 | l77_1 (a0 : List ApiSelector) (a1 : Int) (a2 : Int) (a3 : List Int) (a4 : Int) (a5 : Int) (a6 : List Ref16Node) (a7 : ApiSegment) (a8 : Ref16Node)
 | l77_2 (a0 : Int) (a1 : Int) (a2 : List Ref16Node) (a3 : ApiSegment) (a4 : Ref16Node)
 | l77_3 (a0 : List Ref16Node)
noncomputable def f77 : L77 → Option (List Ref16Node)
 | .e77 a0 a1 =>
  f77 (.l77_0 a1.selectors (a1.selectors.length : Int) (0 : Int) ([] : List Ref16Node) a1 a0)
 | .l77_0 a0 a1 a2 a3 a4 a5 =>
  if (decide (a2 < a1)) = true then
   idx a0 a2 >>= fun v1 =>
   f23 (.e23 a5.value v1) >>= fun v2 =>
   f77 (.l77_1 a0 a1 a2 v2 (v2.length : Int) (0 : Int) a3 a4 a5)
  else
   if a4.deep = true then
    f77 (.l77_2 (a5.value.items.length : Int) (0 : Int) a3 a4 a5)
   else
    f77 (.l77_3 a3)
 | .l77_1 a0 a1 a2 a3 a4 a5 a6 a7 a8 =>
  if (decide (a5 < a4)) = true then
   idx a3 a5 >>= fun v3 =>
   f81 (.e81 a8 v3) >>= fun v4 =>
   room a6.length ([v4] : List Ref16Node).length 112 >>= fun v5 =>
   f77 (.l77_1 a0 a1 a2 a3 a4 (IntKind.wrap .i64 (a5 + (1 : Int))) (a6 ++ ([v4] : List Ref16Node)) a7 a8)
  else
   f77 (.l77_0 a0 a1 (IntKind.wrap .i64 (a2 + (1 : Int))) a6 a7 a8)
 | .l77_2 a0 a1 a2 a3 a4 =>
  if (decide (a1 < a0)) = true then
   f81 (.e81 a4 a1) >>= fun v6 =>
   f77 (.e77 v6 a3) >>= fun v7 =>
   room a2.length v7.length 112 >>= fun v8 =>
   f77 (.l77_2 a0 (IntKind.wrap .i64 (a1 + (1 : Int))) (a2 ++ v7) a3 a4)
  else
   some a2
 | .l77_3 a0 =>
  some a0
 partial_fixpoint
def M77 : L77 → (List Ref16Node) → Prop
 | .e77 a0 a1, r => ∀ (w : World) (F : Nat → Prop) (ρ : Rho), AK Tryz.prog (ctx GG 54 w F ρ []) 77 [.code b77] (argE 0 [.agg [.int .i64 a0.value.kind, .int .i64 a0.value.frm, .int .i64 a0.value.to, .str a0.value.text, .sl Ty.sApiValue a0.value.items, .sl Ty.str a0.value.names, .sl Ty.sApiStep a0.steps], .agg [.bool a1.deep, .sl Ty.sApiSelector a1.selectors]]) [] (fun z _ => z = .sl Ty.sRef16Node r)
 | .l77_0 a0 a1 a2 a3 a4 a5, r => ∀ (w : World) (F : Nat → Prop) (ρ : Rho), AK Tryz.prog (ctx GG 54 w F ρ []) 77 [.code (c1 (c1 (c2 (c1 (c2 (c2 b77)))))), .inLoop (c1 (c1 (c2 (c1 (c2 (c2 b77)))))), .inBlock 0, .code (c2 (c2 (c2 b77)))] [(2, .ref 2 0), (3, .ref 3 0), (5, .mf 7 2011), (13, .sl Ty.sApiSelector a0), (14, .int .i64 a1), (15, .int .i64 a2)] [(2011, .arr 64 Ty.sRef16Node a3), (3, .cells 47 [.bool a4.deep, .sl Ty.sApiSelector a4.selectors]), (2, .cells 64 [.int .i64 a5.value.kind, .int .i64 a5.value.frm, .int .i64 a5.value.to, .str a5.value.text, .sl Ty.sApiValue a5.value.items, .sl Ty.str a5.value.names, .sl Ty.sApiStep a5.steps])] (fun z _ => z = .sl Ty.sRef16Node r)
 | .l77_1 a0 a1 a2 a3 a4 a5 a6 a7 a8, r => ∀ (w : World) (F : Nat → Prop) (ρ : Rho), AK Tryz.prog (ctx GG 54 w F ρ []) 77 [.code (c1 (c1 (c2 (c2 (c1 (c1 (c2 (c2 (c1 (c1 (c2 (c1 (c2 (c2 b77)))))))))))))), .inLoop (c1 (c1 (c2 (c2 (c1 (c1 (c2 (c2 (c1 (c1 (c2 (c1 (c2 (c2 b77)))))))))))))), .inBlock 2, .inBlock 1, .code (c2 (c2 (c2 (c1 (c1 (c2 (c1 (c2 (c2 b77))))))))), .inLoop (c1 (c1 (c2 (c1 (c2 (c2 b77)))))), .inBlock 0, .code (c2 (c2 (c2 b77)))] [(2, .ref 2 0), (3, .ref 3 0), (5, .mf 7 2011), (13, .sl Ty.sApiSelector a0), (14, .int .i64 a1), (15, .int .i64 a2), (22, .sl Ty.i64 a3), (23, .int .i64 a4), (24, .int .i64 a5)] [(2011, .arr 64 Ty.sRef16Node a6), (3, .cells 47 [.bool a7.deep, .sl Ty.sApiSelector a7.selectors]), (2, .cells 64 [.int .i64 a8.value.kind, .int .i64 a8.value.frm, .int .i64 a8.value.to, .str a8.value.text, .sl Ty.sApiValue a8.value.items, .sl Ty.str a8.value.names, .sl Ty.sApiStep a8.steps])] (fun z _ => z = .sl Ty.sRef16Node r)
 | .l77_2 a0 a1 a2 a3 a4, r => ∀ (w : World) (F : Nat → Prop) (ρ : Rho), AK Tryz.prog (ctx GG 54 w F ρ []) 77 [.code (c1 (c1 (c2 (c1 (c2 (c1 (c2 (c2 (c2 b77))))))))), .inLoop (c1 (c1 (c2 (c1 (c2 (c1 (c2 (c2 (c2 b77))))))))), .inBlock 4, .code (c2 (c2 (c2 (c2 b77))))] [(2, .ref 2 0), (3, .ref 3 0), (5, .mf 7 2011), (41, .int .i64 a0), (42, .int .i64 a1)] [(2011, .arr 64 Ty.sRef16Node a2), (3, .cells 47 [.bool a3.deep, .sl Ty.sApiSelector a3.selectors]), (2, .cells 64 [.int .i64 a4.value.kind, .int .i64 a4.value.frm, .int .i64 a4.value.to, .str a4.value.text, .sl Ty.sApiValue a4.value.items, .sl Ty.str a4.value.names, .sl Ty.sApiStep a4.steps])] (fun z _ => z = .sl Ty.sRef16Node r)
 | .l77_3 a0, r => ∀ (w : World) (F : Nat → Prop) (ρ : Rho), AK Tryz.prog (ctx GG 54 w F ρ []) 77 [.code (c2 (c2 (c2 (c2 b77))))] [(5, .mf 7 2011)] [(2011, .arr 64 Ty.sRef16Node a0)] (fun z _ => z = .sl Ty.sRef16Node r)
theorem w77 : ∀ (l : L77) (r : List Ref16Node), f77 l = some r → M77 l r := f77.partial_correctness M77 (by
 intro f ih l r h
 cases l with
 | e77 a0 a1 =>
  intro w F ρ
  dsimp only at h
  refine ak_seq ?_
  refine ak_regionS (.cons rfl (ok_box (d := 2) (dlt rfl rfl) rfl rfl rfl rfl rfl) (.cons rfl (ok_box (d := 3) (dlt rfl rfl) rfl rfl rfl rfl rfl) (.cons rfl (ok_assign (dlt rfl rfl) rfl rfl) (.nil ?_))))
  refine ak_seq ?_
  refine ak_regionS (.cons rfl (ok_litM0 (d := 2011) (dlt rfl rfl) Ty.sRef16Node rfl rfl Tryz.underlying35 ty64 rfl rfl) (.cons rfl (ok_assign (dlt rfl rfl) rfl rfl) (.nil ?_)))
  refine ak_seq ?_
  refine ak_seq ?_
  refine ak_regionS (.cons rfl (ok_fieldV (dlt rfl rfl) rfl fo47_1 ty45 (by decide) rfl) (.cons rfl (ok_loadV (dlt rfl rfl) rfl ty45 rfl rfl rfl) (.cons rfl (ok_lenS (τ := Ty.sApiSelector) (xs := a1.selectors) (dlt rfl rfl) rfl Tryz.underlying45 rfl) (.cons rfl (ok_move (dlt rfl rfl) rfl rfl) (.nil ?_)))))
  refine ak_block ?_
  refine ak_loop ?_
  exact ak_conv (.cons rfl (.refl _) (.cons rfl (.refl _) (.cons rfl (.refl _) (.cons rfl (.refl _) (.cons rfl (.refl _) (.cons rfl (.refl _) (.nil _))))))) (.cons rfl (.refl _) (.cons rfl (.refl _) (.cons rfl (.refl _) (.nil _)))) (ih _ _ h w F ρ)
 | l77_0 a0 a1 a2 a3 a4 a5 =>
  intro w F ρ
  dsimp only at h
  refine ak_seq ?_
  refine ak_regionS (.cons rfl (ok_lss (dlt rfl rfl) rfl rfl rfl) (.nil ?_))
  refine ak_seq ?_
  refine ak_cond rfl (fun ht => ?_) (fun ht => ?_)
  ·have h := cond_t ht h
   refine ak_skip ?_
   refine ak_seq ?_
   refine ak_block ?_
   refine ak_seq ?_
   obtain ⟨v1, hv1, h⟩ := bind_of h
   refine ak_regionS (.cons rfl (ok_indexS (τ := Ty.sApiSelector) (x := v1) (dlt rfl rfl) rfl Tryz.underlying45 ty49 rfl rfl rfl (idx_0 hv1) (idx_1 hv1)) (.cons rfl (ok_loadRT (dlt rfl rfl) rfl ty49 rfl (by decide) rfl) (.cons rfl (ok_alloc (d := 7) (dlt rfl rfl) rfl ty49 rfl rfl rfl) (.cons rfl (ok_storeV rfl rfl ty49 rfl rfl rfl rfl (by decide) rfl rfl) (.nil ?_)))))
   refine ak_seq ?_
   obtain ⟨v2, hv2, h⟩ := bind_of h
   refine ak_regionS (.cons rfl (ok_fieldV (dlt rfl rfl) rfl fo64_0 ty29 (by decide) rfl) (.cons rfl (ok_loadVT (dlt rfl rfl) rfl ty29 rfl rfl (by decide) rfl) (.cons rfl (ok_loadVT (dlt rfl rfl) rfl ty49 rfl rfl (by decide) rfl) (.cons rfl (ok_call (xs := [.agg [.int .i64 a5.value.kind, .int .i64 a5.value.frm, .int .i64 a5.value.to, .str a5.value.text, .sl Ty.sApiValue a5.value.items, .sl Ty.str a5.value.names], .agg [.int .i64 v1.kind, .str v1.name, .int .i64 v1.index, .int .i64 v1.start, .int .i64 v1.stop, .bool v1.hasStart, .bool v1.hasEnd, .int .i64 v1.stride]]) (caps := []) (dlt rfl rfl) rfl rfl Tryz.func23 rfl rfl rfl (d23 hv2) rfl) (.cons rfl (ok_lenS (τ := Ty.i64) (xs := v2) (dlt rfl rfl) rfl Tryz.underlying50 rfl) (.cons rfl (ok_move (dlt rfl rfl) rfl rfl) (.nil ?_)))))))
   refine ak_block ?_
   refine ak_loop ?_
   exact ak_conv (.cons rfl (.refl _) (.cons rfl (.refl _) (.cons rfl (.refl _) (.cons rfl (.refl _) (.cons rfl (.refl _) (.cons rfl (.refl _) (.cons rfl (.refl _) (.cons rfl (.refl _) (.cons rfl (.refl _) (.nil _)))))))))) (.cons rfl (.refl _) (.cons rfl (.refl _) (.cons rfl (.refl _) (.nil _)))) (ih _ _ h w F ρ)
  ·have h := cond_f ht h
   refine ak_exit rfl ?_
   refine ak_seq ?_
   refine ak_seq ?_
   refine ak_regionS (.cons rfl (ok_fieldV (dlt rfl rfl) rfl fo47_0 ty4 (by decide) rfl) (.cons rfl (ok_loadV (dlt rfl rfl) rfl ty4 rfl rfl rfl) (.nil ?_)))
   refine ak_cond rfl (fun ht => ?_) (fun ht => ?_)
   ·have h := cond_t ht h
    refine ak_seq ?_
    refine ak_regionS (.cons rfl (ok_fieldV (dlt rfl rfl) rfl fo64_0 ty29 (by decide) rfl) (.cons rfl (ok_fieldV (dlt rfl rfl) rfl fo29_4 ty26 (by decide) rfl) (.cons rfl (ok_loadV (dlt rfl rfl) rfl ty26 rfl rfl rfl) (.cons rfl (ok_lenS (τ := Ty.sApiValue) (xs := a5.value.items) (dlt rfl rfl) rfl Tryz.underlying26 rfl) (.cons rfl (ok_move (dlt rfl rfl) rfl rfl) (.nil ?_))))))
    refine ak_block ?_
    refine ak_loop ?_
    exact ak_conv (.cons rfl (.refl _) (.cons rfl (.refl _) (.cons rfl (.refl _) (.cons rfl (.refl _) (.cons rfl (.refl _) (.nil _)))))) (.cons rfl (.refl _) (.cons rfl (.refl _) (.cons rfl (.refl _) (.nil _)))) (ih _ _ h w F ρ)
   ·have h := cond_f ht h
    refine ak_skip ?_
    exact ak_conv (.cons rfl (.refl _) (.nil _)) (.cons rfl (.refl _) (.nil _)) (ih _ _ h w F ρ)
 | l77_1 a0 a1 a2 a3 a4 a5 a6 a7 a8 =>
  intro w F ρ
  dsimp only at h
  refine ak_seq ?_
  refine ak_regionS (.cons rfl (ok_lss (dlt rfl rfl) rfl rfl rfl) (.nil ?_))
  refine ak_seq ?_
  refine ak_cond rfl (fun ht => ?_) (fun ht => ?_)
  ·have h := cond_t ht h
   refine ak_skip ?_
   refine ak_seq ?_
   refine ak_block ?_
   refine ak_seq ?_
   obtain ⟨v3, hv3, h⟩ := bind_of h
   refine ak_regionS (.cons rfl (ok_indexS (τ := Ty.i64) (x := v3) (dlt rfl rfl) rfl Tryz.underlying50 ty3 rfl rfl rfl (idx_0 hv3) (idx_1 hv3)) (.cons rfl (ok_loadR (dlt rfl rfl) rfl ty3 rfl rfl) (.cons rfl (ok_assign (dlt rfl rfl) rfl rfl) (.nil ?_))))
   obtain ⟨v4, hv4, h⟩ := bind_of h
   obtain ⟨v5, hv5, h⟩ := bind_of h
   refine ak_regionS (.cons rfl (ok_move (dlt rfl rfl) rfl rfl) (.cons rfl (ok_loadVT (dlt rfl rfl) rfl ty64 rfl rfl (by decide) rfl) (.cons rfl (ok_move (dlt rfl rfl) rfl rfl) (.cons rfl (ok_call (xs := [.agg [.int .i64 a8.value.kind, .int .i64 a8.value.frm, .int .i64 a8.value.to, .str a8.value.text, .sl Ty.sApiValue a8.value.items, .sl Ty.str a8.value.names, .sl Ty.sApiStep a8.steps], .int .i64 v3]) (caps := []) (dlt rfl rfl) rfl rfl Tryz.func81 rfl rfl rfl (d81 hv4) rfl) (.cons rfl (ok_lit (τ := Ty.sRef16Node) (dlt rfl rfl) ([v4] : List Ref16Node) rfl Tryz.underlying35 ty64 rfl rfl rfl rfl rfl (by decide) (by decide) rfl) (.cons rfl (ok_appendF (τ := Ty.sRef16Node) (xs := a6) (ys := ([v4] : List Ref16Node)) (dlt rfl rfl) rfl Tryz.underlying35 ty64 rfl rfl rfl rfl (room_1 hv5) (room_2 hv5)) (.cons rfl (ok_assign (dlt rfl rfl) rfl rfl) (.nil ?_))))))))
   refine ak_inBlock ?_
   refine ak_regionS (.cons rfl (ok_add (dlt rfl rfl) rfl rfl rfl) (.cons rfl (ok_move (dlt rfl rfl) rfl rfl) (.nil ?_)))
   refine ak_inLoop ?_
   exact ak_conv (.cons rfl (.refl _) (.cons rfl (.refl _) (.cons rfl (.refl _) (.cons rfl (.refl _) (.cons rfl (.refl _) (.cons rfl (.refl _) (.cons rfl (.refl _) (.cons rfl (.refl _) (.cons rfl (.refl _) (.nil _)))))))))) (.cons rfl (.refl _) (.cons rfl (.refl _) (.cons rfl (.refl _) (.nil _)))) (ih _ _ h w F ρ)
  ·have h := cond_f ht h
   refine ak_exit rfl ?_
   refine ak_inBlock ?_
   refine ak_regionS (.cons rfl (ok_add (dlt rfl rfl) rfl rfl rfl) (.cons rfl (ok_move (dlt rfl rfl) rfl rfl) (.nil ?_)))
   refine ak_inLoop ?_
   exact ak_conv (.cons rfl (.refl _) (.cons rfl (.refl _) (.cons rfl (.refl _) (.cons rfl (.refl _) (.cons rfl (.refl _) (.cons rfl (.refl _) (.nil _))))))) (.cons rfl (.refl _) (.cons rfl (.refl _) (.cons rfl (.refl _) (.nil _)))) (ih _ _ h w F ρ)
 | l77_2 a0 a1 a2 a3 a4 =>
  intro w F ρ
  dsimp only at h
  refine ak_seq ?_
  refine ak_regionS (.cons rfl (ok_lss (dlt rfl rfl) rfl rfl rfl) (.nil ?_))
  refine ak_seq ?_
  refine ak_cond rfl (fun ht => ?_) (fun ht => ?_)
  ·have h := cond_t ht h
   refine ak_skip ?_
   refine ak_seq ?_
   refine ak_block ?_
   refine ak_seq ?_
   refine ak_regionS (.cons rfl (ok_move (dlt rfl rfl) rfl rfl) (.cons rfl (ok_assign (dlt rfl rfl) rfl rfl) (.nil ?_)))
   obtain ⟨v6, hv6, h⟩ := bind_of h
   obtain ⟨v7, hv7, h⟩ := bind_of h
   obtain ⟨v8, hv8, h⟩ := bind_of h
   refine ak_drawL [⟨some 45, [(5, .mf 7 2011)], none, true, .mf 7 2011, [], []⟩,
  ⟨some 46, [(2, .ref 2 0)], none, true, .agg [.int .i64 a4.value.kind, .int .i64 a4.value.frm, .int .i64 a4.value.to, .str a4.value.text, .sl Ty.sApiValue a4.value.items, .sl Ty.str a4.value.names, .sl Ty.sApiStep a4.steps], [(2, .cells 64 [.int .i64 a4.value.kind, .int .i64 a4.value.frm, .int .i64 a4.value.to, .str a4.value.text, .sl Ty.sApiValue a4.value.items, .sl Ty.str a4.value.names, .sl Ty.sApiStep a4.steps])], []⟩,
  ⟨some 47, [(10, .int .i64 a1)], none, true, .int .i64 a1, [], []⟩,
  ⟨some 48, [(46, .agg [.int .i64 a4.value.kind, .int .i64 a4.value.frm, .int .i64 a4.value.to, .str a4.value.text, .sl Ty.sApiValue a4.value.items, .sl Ty.str a4.value.names, .sl Ty.sApiStep a4.steps]), (47, .int .i64 a1)], none, true, .agg [.int .i64 v6.value.kind, .int .i64 v6.value.frm, .int .i64 v6.value.to, .str v6.value.text, .sl Ty.sApiValue v6.value.items, .sl Ty.str v6.value.names, .sl Ty.sApiStep v6.steps], [], []⟩,
  ⟨some 49, [(3, .ref 3 0)], none, true, .agg [.bool a3.deep, .sl Ty.sApiSelector a3.selectors], [(3, .cells 47 [.bool a3.deep, .sl Ty.sApiSelector a3.selectors])], []⟩,
  ⟨some 50, [(48, .agg [.int .i64 v6.value.kind, .int .i64 v6.value.frm, .int .i64 v6.value.to, .str v6.value.text, .sl Ty.sApiValue v6.value.items, .sl Ty.str v6.value.names, .sl Ty.sApiStep v6.steps]), (49, .agg [.bool a3.deep, .sl Ty.sApiSelector a3.selectors])], none, true, .sl Ty.sRef16Node v7, [], []⟩,
  ⟨some 51, [(45, .mf 7 2011), (50, .sl Ty.sRef16Node v7)], none, true, .mf 7 3051, [(2011, .arr 64 Ty.sRef16Node a2)], [(3051, .arr 64 Ty.sRef16Node (a2 ++ v7)), (2011, .dead)]⟩,
  ⟨some 5, [(51, .mf 7 3051)], none, true, .mf 7 3051, [], []⟩] [[], [], [], [1, 2], [], [1, 2, 3, 4], [0, 1, 2, 3, 4, 5], [0, 1, 2, 3, 4, 5, 6]] (by kernel_rfl) (by kernel_rfl) (.cons (qok (dlt rfl rfl) rfl (.same rfl .nil) (NeedQ.all .nil) (fun Γx σx => ok_move (dlt rfl rfl) rfl rfl)) (.cons (qok (dlt rfl rfl) rfl (.same rfl .nil) (NeedQ.all (.cons rfl .nil)) (fun Γx σx => ok_loadVT (dlt rfl rfl) rfl ty64 rfl rfl (by decide) rfl)) (.cons (qok (dlt rfl rfl) rfl (.same rfl .nil) (NeedQ.all .nil) (fun Γx σx => ok_move (dlt rfl rfl) rfl rfl)) (.cons (qok (dlt rfl rfl) rfl (.same rfl (.same rfl .nil)) (NeedQ.all .nil) (fun Γx σx => ok_call (xs := [.agg [.int .i64 a4.value.kind, .int .i64 a4.value.frm, .int .i64 a4.value.to, .str a4.value.text, .sl Ty.sApiValue a4.value.items, .sl Ty.str a4.value.names, .sl Ty.sApiStep a4.steps], .int .i64 a1]) (caps := []) (dlt rfl rfl) rfl rfl Tryz.func81 rfl rfl rfl (d81 hv6) rfl)) (.cons (qok (dlt rfl rfl) rfl (.same rfl .nil) (NeedQ.all (.cons rfl .nil)) (fun Γx σx => ok_loadVT (dlt rfl rfl) rfl ty47 rfl rfl (by decide) rfl)) (.cons (qok (dlt rfl rfl) rfl (.same rfl (.same rfl .nil)) (NeedQ.all .nil) (fun Γx σx => ok_call (xs := [.agg [.int .i64 v6.value.kind, .int .i64 v6.value.frm, .int .i64 v6.value.to, .str v6.value.text, .sl Ty.sApiValue v6.value.items, .sl Ty.str v6.value.names, .sl Ty.sApiStep v6.steps], .agg [.bool a3.deep, .sl Ty.sApiSelector a3.selectors]]) (caps := []) (dlt rfl rfl) rfl rfl Tryz.func77 rfl rfl rfl (fn_of (fn := Tryz.f77) Tryz.func77 rfl Tryz.ntmps77 rfl (ih _ _ hv7)) rfl)) (.cons (qokN (dlt rfl rfl) rfl (.same rfl (.same rfl .nil)) (NeedQ.all (.cons rfl .nil)) (fresh1 rfl rfl rfl) (fun Γx σx hfr => ok_appendL (τ := Ty.sRef16Node) (r := 2011) (xs := a2) (ys := v7) (dlt rfl rfl) 3051 rfl Tryz.underlying35 ty64 rfl rfl rfl rfl (fun F ρ ac w _ h => src_sl h) (room_1 hv8) (room_2 hv8) (noM_app rfl (fresh2 rfl hfr).1) (noMH_app rfl (fresh2 rfl hfr).2))) (.cons (qok (dlt rfl rfl) rfl (.same rfl .nil) (NeedQ.all .nil) (fun Γx σx => ok_assign (dlt rfl rfl) rfl rfl)) (.nil _ _))))))))) (.nil ?_)
   refine ak_inBlock ?_
   refine ak_regionS (.cons rfl (ok_add (dlt rfl rfl) rfl rfl rfl) (.cons rfl (ok_move (dlt rfl rfl) rfl rfl) (.nil ?_)))
   refine ak_inLoop ?_
   refine ak_conv (Γ' := [(2, .ref 2 0), (3, .ref 3 0), (5, .mf 7 3051), (41, .int .i64 a0), (42, .int .i64 (IntKind.wrap .i64 (a1 + (1 : Int))))]) (σ' := [(3051, .arr 64 Ty.sRef16Node (a2 ++ v7)), (3, .cells 47 [.bool a3.deep, .sl Ty.sApiSelector a3.selectors]), (2, .cells 64 [.int .i64 a4.value.kind, .int .i64 a4.value.frm, .int .i64 a4.value.to, .str a4.value.text, .sl Ty.sApiValue a4.value.items, .sl Ty.str a4.value.names, .sl Ty.sApiStep a4.steps])]) (.cons rfl (.refl _) (.cons rfl (.refl _) (.cons rfl (.refl _) (.cons rfl (.refl _) (.cons rfl (.refl _) (.nil _)))))) (.cons rfl (.refl _) (.cons rfl (.refl _) (.cons rfl (.refl _) (.nil _)))) ?_
   refine ak_ren 3051 2011 rfl rfl rfl rfl ?_
   exact ak_conv (.cons rfl (.refl _) (.cons rfl (.refl _) (.cons rfl (.refl _) (.cons rfl (.refl _) (.cons rfl (.refl _) (.nil _)))))) (.cons rfl (.refl _) (.cons rfl (.refl _) (.cons rfl (.refl _) (.nil _)))) (ih _ _ h w F ρ)
  ·have h := cond_f ht h
   refine ak_exit rfl ?_
   refine ak_seq ?_
   refine ak_regionS (.cons rfl (ok_move (dlt rfl rfl) rfl rfl) (.cons rfl (ok_assign (dlt rfl rfl) rfl rfl) (.nil ?_)))
   obtain rfl := Option.some.inj h
   refine ak_freeze 2011 rfl ?_
   refine ak_conv (Γ' := [(4, .sl Ty.sRef16Node a2)]) (σ' := []) (.cons rfl (.refl _) (.nil _)) (.nil _) ?_
   exact ak_ret (fn := Tryz.f77) Tryz.func77 rfl trivial rfl
 | l77_3 a0 =>
  intro w F ρ
  dsimp only at h
  refine ak_seq ?_
  refine ak_regionS (.cons rfl (ok_move (dlt rfl rfl) rfl rfl) (.cons rfl (ok_assign (dlt rfl rfl) rfl rfl) (.nil ?_)))
  obtain rfl := Option.some.inj h
  refine ak_freeze 2011 rfl ?_
  refine ak_conv (Γ' := [(4, .sl Ty.sRef16Node a0)]) (σ' := []) (.cons rfl (.refl _) (.nil _)) (.nil _) ?_
  exact ak_ret (fn := Tryz.f77) Tryz.func77 rfl trivial rfl)
theorem d77 {a0 : Ref16Node} {a1 : ApiSegment} {r : List Ref16Node} (h : f77 (.e77 a0 a1) = some r) : Does Tryz.prog GG 77 [.agg [.int .i64 a0.value.kind, .int .i64 a0.value.frm, .int .i64 a0.value.to, .str a0.value.text, .sl Ty.sApiValue a0.value.items, .sl Ty.str a0.value.names, .sl Ty.sApiStep a0.steps], .agg [.bool a1.deep, .sl Ty.sApiSelector a1.selectors]] [] (fun z _ => z = .sl Ty.sRef16Node r) := fn_of (fn := Tryz.f77) Tryz.func77 rfl Tryz.ntmps77 rfl (w77 _ _ h)
end Go.Proofs.YtonlbdholdaifaaGreatDoor
end
section
set_option linter.unusedVariables false
set_option linter.unusedSimpArgs false
set_option maxRecDepth 10000
namespace Go.Proofs.YtonlbdholdaifaaGreatDoor
open Go Go.Rf Go.Proofs
/-- riffle/riffleref16.Row -/
noncomputable abbrev b24 : Code := codeOf Tryz.f24
inductive L24 where
 | e24 (a0 : ApiValue) (a1 : List ApiSegment) (a2 : Int)
 | l24_0 (a0 : Int) (a1 : List Ref16Node) (a2 : List ApiSegment) (a3 : Int) (a4 : Int)
 | l24_1 (a0 : Int) (a1 : List ApiSegment) (a2 : Int) (a3 : Int) (a4 : List Ref16Node) (a5 : Int) (a6 : Int) (a7 : List Ref16Node) (a8 : ApiSegment)
noncomputable def f24 : L24 → Option ((List Ref16Node) × Bool)
 | .e24 a0 a1 a2 =>
  f24 (.l24_0 a2 ([(⟨a0, ([] : List ApiStep)⟩ : Ref16Node)] : List Ref16Node) a1 (a1.length : Int) (0 : Int))
 | .l24_0 a0 a1 a2 a3 a4 =>
  if (decide (a4 < a3)) = true then
   idx a2 a4 >>= fun v1 =>
   f24 (.l24_1 a0 a2 a3 a4 a1 (a1.length : Int) (0 : Int) ([] : List Ref16Node) v1)
  else
   some (a1, true)
 | .l24_1 a0 a1 a2 a3 a4 a5 a6 a7 a8 =>
  if (decide (a6 < a5)) = true then
   idx a4 a6 >>= fun v2 =>
   f77 (.e77 v2 a8) >>= fun v3 =>
   room a7.length v3.length 112 >>= fun v4 =>
   if (decide (a0 < ((a7 ++ v3).length : Int))) = true then
    some (([] : List Ref16Node), false)
   else
    f24 (.l24_1 a0 a1 a2 a3 a4 a5 (IntKind.wrap .i64 (a6 + (1 : Int))) (a7 ++ v3) a8)
  else
   f24 (.l24_0 a0 a7 a1 a2 (IntKind.wrap .i64 (a3 + (1 : Int))))
 partial_fixpoint
def M24 : L24 → ((List Ref16Node) × Bool) → Prop
 | .e24 a0 a1 a2, r => ∀ (w : World) (F : Nat → Prop) (ρ : Rho), AK Tryz.prog (ctx GG 43 w F ρ []) 24 [.code b24] (argE 0 [.agg [.int .i64 a0.kind, .int .i64 a0.frm, .int .i64 a0.to, .str a0.text, .sl Ty.sApiValue a0.items, .sl Ty.str a0.names], .sl Ty.sApiSegment a1, .int .i64 a2]) [] (fun z _ => z = .tup [.sl Ty.sRef16Node r.1, .bool r.2])
 | .l24_0 a0 a1 a2 a3 a4, r => ∀ (w : World) (F : Nat → Prop) (ρ : Rho), AK Tryz.prog (ctx GG 43 w F ρ []) 24 [.code (c1 (c1 (c2 (c1 (c2 (c2 b24)))))), .inLoop (c1 (c1 (c2 (c1 (c2 (c2 b24)))))), .inBlock 0, .code (c2 (c2 (c2 b24)))] [(2, .int .i64 a0), (8, .sl Ty.sRef16Node a1), (17, .sl Ty.sApiSegment a2), (18, .int .i64 a3), (19, .int .i64 a4)] [] (fun z _ => z = .tup [.sl Ty.sRef16Node r.1, .bool r.2])
 | .l24_1 a0 a1 a2 a3 a4 a5 a6 a7 a8, r => ∀ (w : World) (F : Nat → Prop) (ρ : Rho), AK Tryz.prog (ctx GG 43 w F ρ []) 24 [.code (c1 (c1 (c2 (c1 (c2 (c2 (c1 (c1 (c2 (c2 (c1 (c1 (c2 (c1 (c2 (c2 b24)))))))))))))))), .inLoop (c1 (c1 (c2 (c1 (c2 (c2 (c1 (c1 (c2 (c2 (c1 (c1 (c2 (c1 (c2 (c2 b24)))))))))))))))), .inBlock 2, .code (c2 (c2 (c2 (c1 (c1 (c2 (c2 (c1 (c1 (c2 (c1 (c2 (c2 b24))))))))))))), .inBlock 1, .code (c2 (c2 (c2 (c1 (c1 (c2 (c1 (c2 (c2 b24))))))))), .inLoop (c1 (c1 (c2 (c1 (c2 (c2 b24)))))), .inBlock 0, .code (c2 (c2 (c2 b24)))] [(2, .int .i64 a0), (10, .ref 10 0), (11, .mf 7 2023), (17, .sl Ty.sApiSegment a1), (18, .int .i64 a2), (19, .int .i64 a3), (24, .sl Ty.sRef16Node a4), (25, .int .i64 a5), (26, .int .i64 a6)] [(2023, .arr 64 Ty.sRef16Node a7), (10, .cells 47 [.bool a8.deep, .sl Ty.sApiSelector a8.selectors])] (fun z _ => z = .tup [.sl Ty.sRef16Node r.1, .bool r.2])
theorem w24 : ∀ (l : L24) (r : (List Ref16Node) × Bool), f24 l = some r → M24 l r := f24.partial_correctness M24 (by
 intro f ih l r h
 cases l with
 | e24 a0 a1 a2 =>
  intro w F ρ
  dsimp only at h
  refine ak_seq ?_
  refine ak_regionS (.cons rfl (ok_box (d := 3) (dlt rfl rfl) rfl rfl rfl rfl rfl) (.cons rfl (ok_assign (dlt rfl rfl) rfl rfl) (.cons rfl (ok_assign (dlt rfl rfl) rfl rfl) (.nil ?_))))
  refine ak_seq ?_
  refine ak_regionS (.cons rfl (ok_loadVT (dlt rfl rfl) rfl ty29 rfl rfl (by decide) rfl) (.cons rfl (ok_build (dlt rfl rfl) rfl ty64 rfl pl64 rfl rfl rfl) (.cons rfl (ok_litS (τ := Ty.sRef16Node) (dlt rfl rfl) ([(⟨a0, ([] : List ApiStep)⟩ : Ref16Node)] : List Ref16Node) rfl Tryz.underlying35 ty64 rfl rfl rfl rfl rfl (by decide) (by decide) rfl (.cons (.refl _) (.cons (.refl _) (.cons (.refl _) (.cons (.refl _) (.cons (.refl _) (.cons (.refl _) (.cons (sub_nils Ty.sApiStep) (.nil))))))))) (.cons rfl (ok_assign (dlt rfl rfl) rfl rfl) (.nil ?_)))))
  refine ak_seq ?_
  refine ak_seq ?_
  refine ak_regionS (.cons rfl (ok_move (dlt rfl rfl) rfl rfl) (.cons rfl (ok_lenS (τ := Ty.sApiSegment) (xs := a1) (dlt rfl rfl) rfl Tryz.underlying24 rfl) (.cons rfl (ok_move (dlt rfl rfl) rfl rfl) (.nil ?_))))
  refine ak_block ?_
  refine ak_loop ?_
  exact ak_conv (.cons rfl (.refl _) (.cons rfl (sub_sf Ty.sRef16Node _) (.cons rfl (.refl _) (.cons rfl (.refl _) (.cons rfl (.refl _) (.nil _)))))) (.nil _) (ih _ _ h w F ρ)
 | l24_0 a0 a1 a2 a3 a4 =>
  intro w F ρ
  dsimp only at h
  refine ak_seq ?_
  refine ak_regionS (.cons rfl (ok_lss (dlt rfl rfl) rfl rfl rfl) (.nil ?_))
  refine ak_seq ?_
  refine ak_cond rfl (fun ht => ?_) (fun ht => ?_)
  ·have h := cond_t ht h
   refine ak_skip ?_
   refine ak_seq ?_
   refine ak_block ?_
   refine ak_seq ?_
   obtain ⟨v1, hv1, h⟩ := bind_of h
   refine ak_regionS (.cons rfl (ok_indexS (τ := Ty.sApiSegment) (x := v1) (dlt rfl rfl) rfl Tryz.underlying24 ty47 rfl rfl rfl (idx_0 hv1) (idx_1 hv1)) (.cons rfl (ok_loadRT (dlt rfl rfl) rfl ty47 rfl (by decide) rfl) (.cons rfl (ok_alloc (d := 10) (dlt rfl rfl) rfl ty47 rfl rfl rfl) (.cons rfl (ok_storeV rfl rfl ty47 rfl rfl rfl rfl (by decide) rfl rfl) (.nil ?_)))))
   refine ak_seq ?_
   refine ak_regionS (.cons rfl (ok_litM0 (d := 2023) (dlt rfl rfl) Ty.sRef16Node rfl rfl Tryz.underlying35 ty64 rfl rfl) (.cons rfl (ok_assign (dlt rfl rfl) rfl rfl) (.nil ?_)))
   refine ak_seq ?_
   refine ak_seq ?_
   refine ak_regionS (.cons rfl (ok_move (dlt rfl rfl) rfl rfl) (.cons rfl (ok_lenS (τ := Ty.sRef16Node) (xs := a1) (dlt rfl rfl) rfl Tryz.underlying35 rfl) (.cons rfl (ok_move (dlt rfl rfl) rfl rfl) (.nil ?_))))
   refine ak_block ?_
   refine ak_loop ?_
   exact ak_conv (.cons rfl (.refl _) (.cons rfl (.refl _) (.cons rfl (.refl _) (.cons rfl (.refl _) (.cons rfl (.refl _) (.cons rfl (.refl _) (.cons rfl (.refl _) (.cons rfl (.refl _) (.cons rfl (.refl _) (.nil _)))))))))) (.cons rfl (.refl _) (.cons rfl (.refl _) (.nil _))) (ih _ _ h w F ρ)
  ·have h := cond_f ht h
   refine ak_exit rfl ?_
   refine ak_seq ?_
   refine ak_regionS (.cons rfl (ok_move (dlt rfl rfl) rfl rfl) (.cons rfl (ok_assign (dlt rfl rfl) rfl rfl) (.cons rfl (ok_assign (dlt rfl rfl) rfl rfl) (.nil ?_))))
   obtain rfl := Option.some.inj h
   refine ak_conv (Γ' := [(6, .sl Ty.sRef16Node a1), (7, .bool true)]) (σ' := []) (.cons rfl (.refl _) (.cons rfl (.refl _) (.nil _))) (.nil _) ?_
   exact ak_ret (fn := Tryz.f24) Tryz.func24 rfl trivial rfl
 | l24_1 a0 a1 a2 a3 a4 a5 a6 a7 a8 =>
  intro w F ρ
  dsimp only at h
  refine ak_seq ?_
  refine ak_regionS (.cons rfl (ok_lss (dlt rfl rfl) rfl rfl rfl) (.nil ?_))
  refine ak_seq ?_
  refine ak_cond rfl (fun ht => ?_) (fun ht => ?_)
  ·have h := cond_t ht h
   refine ak_skip ?_
   refine ak_seq ?_
   refine ak_block ?_
   refine ak_seq ?_
   obtain ⟨v2, hv2, h⟩ := bind_of h
   refine ak_regionS (.cons rfl (ok_indexS (τ := Ty.sRef16Node) (x := v2) (dlt rfl rfl) rfl Tryz.underlying35 ty64 rfl rfl rfl (idx_0 hv2) (idx_1 hv2)) (.cons rfl (ok_loadRT (dlt rfl rfl) rfl ty64 rfl (by decide) rfl) (.cons rfl (ok_alloc (d := 13) (dlt rfl rfl) rfl ty64 rfl rfl rfl) (.cons rfl (ok_storeV rfl rfl ty64 rfl rfl rfl rfl (by decide) rfl rfl) (.nil ?_)))))
   refine ak_seq ?_
   obtain ⟨v3, hv3, h⟩ := bind_of h
   obtain ⟨v4, hv4, h⟩ := bind_of h
   refine ak_regionS (.cons rfl (ok_move (dlt rfl rfl) rfl rfl) (.cons rfl (ok_loadVT (dlt rfl rfl) rfl ty64 rfl rfl (by decide) rfl) (.cons rfl (ok_loadVT (dlt rfl rfl) rfl ty47 rfl rfl (by decide) rfl) (.cons rfl (ok_call (xs := [.agg [.int .i64 v2.value.kind, .int .i64 v2.value.frm, .int .i64 v2.value.to, .str v2.value.text, .sl Ty.sApiValue v2.value.items, .sl Ty.str v2.value.names, .sl Ty.sApiStep v2.steps], .agg [.bool a8.deep, .sl Ty.sApiSelector a8.selectors]]) (caps := []) (dlt rfl rfl) rfl rfl Tryz.func77 rfl rfl rfl (d77 hv3) rfl) (.cons rfl (ok_appendS (τ := Ty.sRef16Node) (xs := a7) (ys := v3) (dlt rfl rfl) rfl Tryz.underlying35 ty64 rfl rfl rfl rfl (room_1 hv4) (room_2 hv4)) (.cons rfl (ok_assign (dlt rfl rfl) rfl rfl) (.nil ?_)))))))
   refine ak_seq ?_
   refine ak_regionS (.cons rfl (ok_move (dlt rfl rfl) rfl rfl) (.cons rfl (ok_lenA (dlt rfl rfl) rfl Tryz.underlying35 rfl rfl) (.cons rfl (ok_move (dlt rfl rfl) rfl rfl) (.cons rfl (ok_gtr (dlt rfl rfl) rfl rfl rfl) (.nil ?_)))))
   refine ak_cond rfl (fun ht => ?_) (fun ht => ?_)
   ·have h := cond_t ht h
    refine ak_seq ?_
    refine ak_regionS (.cons rfl (ok_assign (dlt rfl rfl) rfl rfl) (.cons rfl (ok_assign (dlt rfl rfl) rfl rfl) (.nil ?_)))
    obtain rfl := Option.some.inj h
    refine ak_conv (Γ' := [(6, .sl Ty.sRef16Node ([] : List Ref16Node)), (7, .bool false)]) (σ' := []) (.cons rfl (sub_nils Ty.sRef16Node) (.cons rfl (.refl _) (.nil _))) (.nil _) ?_
    exact ak_ret (fn := Tryz.f24) Tryz.func24 rfl trivial rfl
   ·have h := cond_f ht h
    refine ak_skip ?_
    refine ak_inBlock ?_
    refine ak_regionS (.cons rfl (ok_add (dlt rfl rfl) rfl rfl rfl) (.cons rfl (ok_move (dlt rfl rfl) rfl rfl) (.nil ?_)))
    refine ak_inLoop ?_
    exact ak_conv (.cons rfl (.refl _) (.cons rfl (.refl _) (.cons rfl (.refl _) (.cons rfl (.refl _) (.cons rfl (.refl _) (.cons rfl (.refl _) (.cons rfl (.refl _) (.cons rfl (.refl _) (.cons rfl (.refl _) (.nil _)))))))))) (.cons rfl (.refl _) (.cons rfl (.refl _) (.nil _))) (ih _ _ h w F ρ)
  ·have h := cond_f ht h
   refine ak_exit rfl ?_
   refine ak_regionS (.cons rfl (ok_move (dlt rfl rfl) rfl rfl) (.cons rfl (ok_assign (dlt rfl rfl) rfl rfl) (.nil ?_)))
   refine ak_inBlock ?_
   refine ak_regionS (.cons rfl (ok_add (dlt rfl rfl) rfl rfl rfl) (.cons rfl (ok_move (dlt rfl rfl) rfl rfl) (.nil ?_)))
   refine ak_inLoop ?_
   refine ak_freeze 2023 rfl ?_
   exact ak_conv (.cons rfl (.refl _) (.cons rfl (.refl _) (.cons rfl (.refl _) (.cons rfl (.refl _) (.cons rfl (.refl _) (.nil _)))))) (.nil _) (ih _ _ h w F ρ))
theorem d24 {a0 : ApiValue} {a1 : List ApiSegment} {a2 : Int} {r : (List Ref16Node) × Bool} (h : f24 (.e24 a0 a1 a2) = some r) : Does Tryz.prog GG 24 [.agg [.int .i64 a0.kind, .int .i64 a0.frm, .int .i64 a0.to, .str a0.text, .sl Ty.sApiValue a0.items, .sl Ty.str a0.names], .sl Ty.sApiSegment a1, .int .i64 a2] [] (fun z _ => z = .tup [.sl Ty.sRef16Node r.1, .bool r.2]) := fn_of (fn := Tryz.f24) Tryz.func24 rfl Tryz.ntmps24 rfl (w24 _ _ h)
/-- riffle/eval.row -/
noncomputable abbrev b78 : Code := codeOf Tryz.f78
inductive L78 where
 | e78 (a0 : ApiValue) (a1 : List ApiSegment)
 | l78_0 (a0 : List EvalFound) (a1 : List ApiSegment) (a2 : Int) (a3 : Int)
 | l78_1 (a0 : List ApiSegment) (a1 : Int) (a2 : Int) (a3 : List EvalFound) (a4 : Int) (a5 : Int) (a6 : ApiSegment) (a7 : List EvalFound)
noncomputable def f78 : L78 → Option (List EvalFound)
 | .e78 a0 a1 =>
  f78 (.l78_0 ([(⟨a0, ([] : List ApiStep)⟩ : EvalFound)] : List EvalFound) a1 (a1.length : Int) (0 : Int))
 | .l78_0 a0 a1 a2 a3 =>
  if (decide (a3 < a2)) = true then
   idx a1 a3 >>= fun v1 =>
   f78 (.l78_1 a1 a2 a3 a0 (a0.length : Int) (0 : Int) v1 ([] : List EvalFound))
  else
   some a0
 | .l78_1 a0 a1 a2 a3 a4 a5 a6 a7 =>
  if (decide (a5 < a4)) = true then
   idx a3 a5 >>= fun v2 =>
   f59 (.e59 v2 a7 a6) >>= fun v3 =>
   f78 (.l78_1 a0 a1 a2 a3 a4 (IntKind.wrap .i64 (a5 + (1 : Int))) a6 v3)
  else
   f78 (.l78_0 a7 a0 a1 (IntKind.wrap .i64 (a2 + (1 : Int))))
 partial_fixpoint
def M78 : L78 → (List EvalFound) → Prop
 | .e78 a0 a1, r => ∀ (w : World) (F : Nat → Prop) (ρ : Rho), AK Tryz.prog (ctx GG 34 w F ρ []) 78 [.code b78] (argE 0 [.agg [.int .i64 a0.kind, .int .i64 a0.frm, .int .i64 a0.to, .str a0.text, .sl Ty.sApiValue a0.items, .sl Ty.str a0.names], .sl Ty.sApiSegment a1]) [] (fun z _ => z = .sl Ty.sEvalFound r)
 | .l78_0 a0 a1 a2 a3, r => ∀ (w : World) (F : Nat → Prop) (ρ : Rho), AK Tryz.prog (ctx GG 34 w F ρ []) 78 [.code (c1 (c1 (c2 (c1 (c2 (c2 b78)))))), .inLoop (c1 (c1 (c2 (c1 (c2 (c2 b78)))))), .inBlock 0, .code (c2 (c2 (c2 b78)))] [(5, .sl Ty.sEvalFound a0), (14, .sl Ty.sApiSegment a1), (15, .int .i64 a2), (16, .int .i64 a3)] [] (fun z _ => z = .sl Ty.sEvalFound r)
 | .l78_1 a0 a1 a2 a3 a4 a5 a6 a7, r => ∀ (w : World) (F : Nat → Prop) (ρ : Rho), AK Tryz.prog (ctx GG 34 w F ρ []) 78 [.code (c1 (c1 (c2 (c1 (c2 (c2 (c1 (c1 (c2 (c2 (c1 (c1 (c2 (c1 (c2 (c2 b78)))))))))))))))), .inLoop (c1 (c1 (c2 (c1 (c2 (c2 (c1 (c1 (c2 (c2 (c1 (c1 (c2 (c1 (c2 (c2 b78)))))))))))))))), .inBlock 2, .code (c2 (c2 (c2 (c1 (c1 (c2 (c2 (c1 (c1 (c2 (c1 (c2 (c2 b78))))))))))))), .inBlock 1, .code (c2 (c2 (c2 (c1 (c1 (c2 (c1 (c2 (c2 b78))))))))), .inLoop (c1 (c1 (c2 (c1 (c2 (c2 b78)))))), .inBlock 0, .code (c2 (c2 (c2 b78)))] [(7, .ref 7 0), (8, .mf 7 60008), (14, .sl Ty.sApiSegment a0), (15, .int .i64 a1), (16, .int .i64 a2), (20, .sl Ty.sEvalFound a3), (21, .int .i64 a4), (22, .int .i64 a5)] [(7, .cells 47 [.bool a6.deep, .sl Ty.sApiSelector a6.selectors]), (60008, .arr 111 Ty.sEvalFound a7)] (fun z _ => z = .sl Ty.sEvalFound r)
theorem w78 : ∀ (l : L78) (r : List EvalFound), f78 l = some r → M78 l r := f78.partial_correctness M78 (by
 intro f ih l r h
 cases l with
 | e78 a0 a1 =>
  intro w F ρ
  dsimp only at h
  refine ak_seq ?_
  refine ak_regionS (.cons rfl (ok_box (d := 2) (dlt rfl rfl) rfl rfl rfl rfl rfl) (.cons rfl (ok_assign (dlt rfl rfl) rfl rfl) (.nil ?_)))
  refine ak_seq ?_
  refine ak_regionS (.cons rfl (ok_loadVT (dlt rfl rfl) rfl ty29 rfl rfl (by decide) rfl) (.cons rfl (ok_build (dlt rfl rfl) rfl ty111 rfl pl111 rfl rfl rfl) (.cons rfl (ok_litS (τ := Ty.sEvalFound) (dlt rfl rfl) ([(⟨a0, ([] : List ApiStep)⟩ : EvalFound)] : List EvalFound) rfl Tryz.underlying112 ty111 rfl rfl rfl rfl rfl (by decide) (by decide) rfl (.cons (.refl _) (.cons (.refl _) (.cons (.refl _) (.cons (.refl _) (.cons (.refl _) (.cons (.refl _) (.cons (sub_nils Ty.sApiStep) (.nil))))))))) (.cons rfl (ok_assign (dlt rfl rfl) rfl rfl) (.nil ?_)))))
  refine ak_seq ?_
  refine ak_seq ?_
  refine ak_regionS (.cons rfl (ok_move (dlt rfl rfl) rfl rfl) (.cons rfl (ok_lenS (τ := Ty.sApiSegment) (xs := a1) (dlt rfl rfl) rfl Tryz.underlying24 rfl) (.cons rfl (ok_move (dlt rfl rfl) rfl rfl) (.nil ?_))))
  refine ak_block ?_
  refine ak_loop ?_
  exact ak_conv (.cons rfl (sub_sf Ty.sEvalFound _) (.cons rfl (.refl _) (.cons rfl (.refl _) (.cons rfl (.refl _) (.nil _))))) (.nil _) (ih _ _ h w F ρ)
 | l78_0 a0 a1 a2 a3 =>
  intro w F ρ
  dsimp only at h
  refine ak_seq ?_
  refine ak_regionS (.cons rfl (ok_lss (dlt rfl rfl) rfl rfl rfl) (.nil ?_))
  refine ak_seq ?_
  refine ak_cond rfl (fun ht => ?_) (fun ht => ?_)
  ·have h := cond_t ht h
   refine ak_skip ?_
   refine ak_seq ?_
   refine ak_block ?_
   refine ak_seq ?_
   obtain ⟨v1, hv1, h⟩ := bind_of h
   refine ak_regionS (.cons rfl (ok_indexS (τ := Ty.sApiSegment) (x := v1) (dlt rfl rfl) rfl Tryz.underlying24 ty47 rfl rfl rfl (idx_0 hv1) (idx_1 hv1)) (.cons rfl (ok_loadRT (dlt rfl rfl) rfl ty47 rfl (by decide) rfl) (.cons rfl (ok_alloc (d := 7) (dlt rfl rfl) rfl ty47 rfl rfl rfl) (.cons rfl (ok_storeV rfl rfl ty47 rfl rfl rfl rfl (by decide) rfl rfl) (.nil ?_)))))
   refine ak_seq ?_
   refine ak_regionS (.cons rfl (ok_assign (dlt rfl rfl) rfl rfl) (.nil ?_))
   refine ak_seq ?_
   refine ak_seq ?_
   refine ak_regionS (.cons rfl (ok_move (dlt rfl rfl) rfl rfl) (.cons rfl (ok_lenS (τ := Ty.sEvalFound) (xs := a0) (dlt rfl rfl) rfl Tryz.underlying112 rfl) (.cons rfl (ok_move (dlt rfl rfl) rfl rfl) (.nil ?_))))
   refine ak_block ?_
   refine ak_loop ?_
   refine ak_nilRow (s := 8) (d := 5000) (e := 111) Ty.sEvalFound rfl rfl rfl ?_
   refine ak_conv (Γ' := [(7, .ref 7 0), (8, .mf 7 5000), (14, .sl Ty.sApiSegment a1), (15, .int .i64 a2), (16, .int .i64 a3), (20, .sl Ty.sEvalFound a0), (21, .int .i64 (a0.length : Int)), (22, .int .i64 (0 : Int))]) (σ' := [(7, .cells 47 [.bool v1.deep, .sl Ty.sApiSelector v1.selectors]), (5000, .arr 111 Ty.sEvalFound ([] : List EvalFound))]) (.cons rfl (.refl _) (.cons rfl (.refl _) (.cons rfl (.refl _) (.cons rfl (.refl _) (.cons rfl (.refl _) (.cons rfl (.refl _) (.cons rfl (.refl _) (.cons rfl (.refl _) (.nil _))))))))) (.cons rfl (.refl _) (.cons rfl (.refl _) (.nil _))) ?_
   refine ak_ren 5000 60008 rfl rfl rfl rfl ?_
   exact ak_conv (.cons rfl (.refl _) (.cons rfl (.refl _) (.cons rfl (.refl _) (.cons rfl (.refl _) (.cons rfl (.refl _) (.cons rfl (.refl _) (.cons rfl (.refl _) (.cons rfl (.refl _) (.nil _))))))))) (.cons rfl (.refl _) (.cons rfl (.refl _) (.nil _))) (ih _ _ h w F ρ)
  ·have h := cond_f ht h
   refine ak_exit rfl ?_
   refine ak_seq ?_
   refine ak_regionS (.cons rfl (ok_move (dlt rfl rfl) rfl rfl) (.cons rfl (ok_assign (dlt rfl rfl) rfl rfl) (.nil ?_)))
   obtain rfl := Option.some.inj h
   refine ak_conv (Γ' := [(4, .sl Ty.sEvalFound a0)]) (σ' := []) (.cons rfl (.refl _) (.nil _)) (.nil _) ?_
   exact ak_ret (fn := Tryz.f78) Tryz.func78 rfl trivial rfl
 | l78_1 a0 a1 a2 a3 a4 a5 a6 a7 =>
  intro w F ρ
  dsimp only at h
  refine ak_seq ?_
  refine ak_regionS (.cons rfl (ok_lss (dlt rfl rfl) rfl rfl rfl) (.nil ?_))
  refine ak_seq ?_
  refine ak_cond rfl (fun ht => ?_) (fun ht => ?_)
  ·have h := cond_t ht h
   refine ak_skip ?_
   refine ak_seq ?_
   refine ak_block ?_
   refine ak_seq ?_
   obtain ⟨v2, hv2, h⟩ := bind_of h
   refine ak_regionS (.cons rfl (ok_indexS (τ := Ty.sEvalFound) (x := v2) (dlt rfl rfl) rfl Tryz.underlying112 ty111 rfl rfl rfl (idx_0 hv2) (idx_1 hv2)) (.cons rfl (ok_loadRT (dlt rfl rfl) rfl ty111 rfl (by decide) rfl) (.cons rfl (ok_alloc (d := 10) (dlt rfl rfl) rfl ty111 rfl rfl rfl) (.cons rfl (ok_storeV rfl rfl ty111 rfl rfl rfl rfl (by decide) rfl rfl) (.nil ?_)))))
   obtain ⟨v3, hv3, h⟩ := bind_of h
   refine ak_regionS (.cons rfl (ok_loadVT (dlt rfl rfl) rfl ty111 rfl rfl (by decide) rfl) (.cons rfl (ok_move (dlt rfl rfl) rfl rfl) (.cons rfl (ok_loadVT (dlt rfl rfl) rfl ty47 rfl rfl (by decide) rfl) (.cons rfl (ok_callL (xs := [.agg [.int .i64 v2.value.kind, .int .i64 v2.value.frm, .int .i64 v2.value.to, .str v2.value.text, .sl Ty.sApiValue v2.value.items, .sl Ty.str v2.value.names, .sl Ty.sApiStep v2.steps], .mf 7 60008, .agg [.bool a6.deep, .sl Ty.sApiSelector a6.selectors]]) (caps := []) (xs1 := [.agg [.int .i64 v2.value.kind, .int .i64 v2.value.frm, .int .i64 v2.value.to, .str v2.value.text, .sl Ty.sApiValue v2.value.items, .sl Ty.str v2.value.names, .sl Ty.sApiStep v2.steps], .mf 7 60008, .agg [.bool a6.deep, .sl Ty.sApiSelector a6.selectors]]) (z := .mf 7 4029) (ups := [(60008, .dead), (4029, .arr 111 Ty.sEvalFound v3)]) (dlt rfl rfl) [(20100, (60008, none))] [(30000, (4029, none))] rfl rfl Tryz.func59 rfl rfl rfl (.cons (.refl _) (.cons (.refl _) (.cons (.refl _) (.nil)))) (.cons (.same rfl) (.cons (.mf rfl) (.cons (.same rfl) (.nil)))) (.arr rfl .nil) rfl (d59 hv3) (.dead (l := 20100) rfl rfl (.newA (l := 30000) rfl rfl .nil)) rfl rfl rfl (frAll rfl) rfl (.mf rfl)) (.cons rfl (ok_assign (dlt rfl rfl) rfl rfl) (.nil ?_))))))
   refine ak_inBlock ?_
   refine ak_regionS (.cons rfl (ok_add (dlt rfl rfl) rfl rfl rfl) (.cons rfl (ok_move (dlt rfl rfl) rfl rfl) (.nil ?_)))
   refine ak_inLoop ?_
   refine ak_conv (Γ' := [(7, .ref 7 0), (8, .mf 7 4029), (14, .sl Ty.sApiSegment a0), (15, .int .i64 a1), (16, .int .i64 a2), (20, .sl Ty.sEvalFound a3), (21, .int .i64 a4), (22, .int .i64 (IntKind.wrap .i64 (a5 + (1 : Int))))]) (σ' := [(7, .cells 47 [.bool a6.deep, .sl Ty.sApiSelector a6.selectors]), (4029, .arr 111 Ty.sEvalFound v3)]) (.cons rfl (.refl _) (.cons rfl (.refl _) (.cons rfl (.refl _) (.cons rfl (.refl _) (.cons rfl (.refl _) (.cons rfl (.refl _) (.cons rfl (.refl _) (.cons rfl (.refl _) (.nil _))))))))) (.cons rfl (.refl _) (.cons rfl (.refl _) (.nil _))) ?_
   refine ak_ren 4029 60008 rfl rfl rfl rfl ?_
   exact ak_conv (.cons rfl (.refl _) (.cons rfl (.refl _) (.cons rfl (.refl _) (.cons rfl (.refl _) (.cons rfl (.refl _) (.cons rfl (.refl _) (.cons rfl (.refl _) (.cons rfl (.refl _) (.nil _))))))))) (.cons rfl (.refl _) (.cons rfl (.refl _) (.nil _))) (ih _ _ h w F ρ)
  ·have h := cond_f ht h
   refine ak_exit rfl ?_
   refine ak_regionS (.cons rfl (ok_move (dlt rfl rfl) rfl rfl) (.cons rfl (ok_assign (dlt rfl rfl) rfl rfl) (.nil ?_)))
   refine ak_inBlock ?_
   refine ak_regionS (.cons rfl (ok_add (dlt rfl rfl) rfl rfl rfl) (.cons rfl (ok_move (dlt rfl rfl) rfl rfl) (.nil ?_)))
   refine ak_inLoop ?_
   refine ak_freeze 60008 rfl ?_
   exact ak_conv (.cons rfl (.refl _) (.cons rfl (.refl _) (.cons rfl (.refl _) (.cons rfl (.refl _) (.nil _))))) (.nil _) (ih _ _ h w F ρ))
theorem d78 {a0 : ApiValue} {a1 : List ApiSegment} {r : List EvalFound} (h : f78 (.e78 a0 a1) = some r) : Does Tryz.prog GG 78 [.agg [.int .i64 a0.kind, .int .i64 a0.frm, .int .i64 a0.to, .str a0.text, .sl Ty.sApiValue a0.items, .sl Ty.str a0.names], .sl Ty.sApiSegment a1] [] (fun z _ => z = .sl Ty.sEvalFound r) := fn_of (fn := Tryz.f78) Tryz.func78 rfl Tryz.ntmps78 rfl (w78 _ _ h)
end Go.Proofs.YtonlbdholdaifaaGreatDoor
end
section
set_option linter.unusedVariables false
set_option linter.unusedSimpArgs false
set_option maxRecDepth 10000
namespace Go.Proofs.YtonlbdholdaifaaGreatDoor
open Go Go.Rf Go.Proofs
/-- riffle/eval.Row -/
noncomputable abbrev b25 : Code := codeOf Tryz.f25
inductive L25 where
 | e25 (a0 : ApiValue) (a1 : List ApiSegment)
 | l25_0 (a0 : List EvalFound) (a1 : Int) (a2 : Int) (a3 : List EvalNode)
noncomputable def f25 : L25 → Option (List EvalNode)
 | .e25 a0 a1 =>
  f78 (.e78 a0 a1) >>= fun v1 =>
  f25 (.l25_0 v1 (v1.length : Int) (0 : Int) ([] : List EvalNode))
 | .l25_0 a0 a1 a2 a3 =>
  if (decide (a2 < a1)) = true then
   idx a0 a2 >>= fun v2 =>
   f65 (.e65 v2.steps) >>= fun v3 =>
   room a3.length ([(⟨v3, v2.value.frm, v2.value.to⟩ : EvalNode)] : List EvalNode).length 40 >>= fun v4 =>
   f25 (.l25_0 a0 a1 (IntKind.wrap .i64 (a2 + (1 : Int))) (a3 ++ ([(⟨v3, v2.value.frm, v2.value.to⟩ : EvalNode)] : List EvalNode)))
  else
   some a3
 partial_fixpoint
def M25 : L25 → (List EvalNode) → Prop
 | .e25 a0 a1, r => ∀ (w : World) (F : Nat → Prop) (ρ : Rho), AK Tryz.prog (ctx GG 31 w F ρ []) 25 [.code b25] (argE 0 [.agg [.int .i64 a0.kind, .int .i64 a0.frm, .int .i64 a0.to, .str a0.text, .sl Ty.sApiValue a0.items, .sl Ty.str a0.names], .sl Ty.sApiSegment a1]) [] (fun z _ => z = .sl Ty.sEvalNode r)
 | .l25_0 a0 a1 a2 a3, r => ∀ (w : World) (F : Nat → Prop) (ρ : Rho), AK Tryz.prog (ctx GG 31 w F ρ []) 25 [.code (c1 (c1 (c2 (c1 (c2 (c2 b25)))))), .inLoop (c1 (c1 (c2 (c1 (c2 (c2 b25)))))), .inBlock 0, .code (c2 (c2 (c2 b25)))] [(5, .mf 3 1005), (10, .sl Ty.sEvalFound a0), (11, .int .i64 a1), (12, .int .i64 a2)] [(1005, .arr 40 Ty.sEvalNode a3)] (fun z _ => z = .sl Ty.sEvalNode r)
theorem w25 : ∀ (l : L25) (r : List EvalNode), f25 l = some r → M25 l r := f25.partial_correctness M25 (by
 intro f ih l r h
 cases l with
 | e25 a0 a1 =>
  intro w F ρ
  dsimp only at h
  refine ak_seq ?_
  refine ak_regionS (.cons rfl (ok_box (d := 2) (dlt rfl rfl) rfl rfl rfl rfl rfl) (.cons rfl (ok_assign (dlt rfl rfl) rfl rfl) (.nil ?_)))
  refine ak_seq ?_
  refine ak_regionS (.cons rfl (ok_assign (dlt rfl rfl) rfl rfl) (.nil ?_))
  refine ak_nilRow (s := 5) (d := 1005) (e := 40) Ty.sEvalNode rfl rfl rfl ?_
  refine ak_seq ?_
  refine ak_seq ?_
  obtain ⟨v1, hv1, h⟩ := bind_of h
  refine ak_regionS (.cons rfl (ok_loadVT (dlt rfl rfl) rfl ty29 rfl rfl (by decide) rfl) (.cons rfl (ok_move (dlt rfl rfl) rfl rfl) (.cons rfl (ok_call (xs := [.agg [.int .i64 a0.kind, .int .i64 a0.frm, .int .i64 a0.to, .str a0.text, .sl Ty.sApiValue a0.items, .sl Ty.str a0.names], .sl Ty.sApiSegment a1]) (caps := []) (dlt rfl rfl) rfl rfl Tryz.func78 rfl rfl rfl (d78 hv1) rfl) (.cons rfl (ok_lenS (τ := Ty.sEvalFound) (xs := v1) (dlt rfl rfl) rfl Tryz.underlying112 rfl) (.cons rfl (ok_move (dlt rfl rfl) rfl rfl) (.nil ?_))))))
  refine ak_block ?_
  refine ak_loop ?_
  exact ak_conv (.cons rfl (.refl _) (.cons rfl (.refl _) (.cons rfl (.refl _) (.cons rfl (.refl _) (.nil _))))) (.cons rfl (.refl _) (.nil _)) (ih _ _ h w F ρ)
 | l25_0 a0 a1 a2 a3 =>
  intro w F ρ
  dsimp only at h
  refine ak_seq ?_
  refine ak_regionS (.cons rfl (ok_lss (dlt rfl rfl) rfl rfl rfl) (.nil ?_))
  refine ak_seq ?_
  refine ak_cond rfl (fun ht => ?_) (fun ht => ?_)
  ·have h := cond_t ht h
   refine ak_skip ?_
   refine ak_seq ?_
   refine ak_block ?_
   refine ak_seq ?_
   obtain ⟨v2, hv2, h⟩ := bind_of h
   refine ak_regionS (.cons rfl (ok_indexS (τ := Ty.sEvalFound) (x := v2) (dlt rfl rfl) rfl Tryz.underlying112 ty111 rfl rfl rfl (idx_0 hv2) (idx_1 hv2)) (.cons rfl (ok_loadRT (dlt rfl rfl) rfl ty111 rfl (by decide) rfl) (.cons rfl (ok_alloc (d := 7) (dlt rfl rfl) rfl ty111 rfl rfl rfl) (.cons rfl (ok_storeV rfl rfl ty111 rfl rfl rfl rfl (by decide) rfl rfl) (.nil ?_)))))
   obtain ⟨v3, hv3, h⟩ := bind_of h
   obtain ⟨v4, hv4, h⟩ := bind_of h
   refine ak_drawL [⟨some 16, [(5, .mf 3 1005)], none, true, .mf 3 1005, [], []⟩,
  ⟨some 17, [(7, .ref 7 0)], none, true, .ref 7 6, [], []⟩,
  ⟨some 18, [(17, .ref 7 6)], none, true, .sl Ty.sApiStep v2.steps, [(7, .cells 111 [.int .i64 v2.value.kind, .int .i64 v2.value.frm, .int .i64 v2.value.to, .str v2.value.text, .sl Ty.sApiValue v2.value.items, .sl Ty.str v2.value.names, .sl Ty.sApiStep v2.steps])], []⟩,
  ⟨some 19, [(18, .sl Ty.sApiStep v2.steps)], none, true, .sl Ty.sApiStep v3, [], []⟩,
  ⟨some 20, [(7, .ref 7 0)], none, true, .ref 7 0, [], []⟩,
  ⟨some 21, [(20, .ref 7 0)], none, true, .ref 7 1, [], []⟩,
  ⟨some 22, [(21, .ref 7 1)], none, true, .int .i64 v2.value.frm, [(7, .cells 111 [.int .i64 v2.value.kind, .int .i64 v2.value.frm, .int .i64 v2.value.to, .str v2.value.text, .sl Ty.sApiValue v2.value.items, .sl Ty.str v2.value.names, .sl Ty.sApiStep v2.steps])], []⟩,
  ⟨some 23, [(7, .ref 7 0)], none, true, .ref 7 0, [], []⟩,
  ⟨some 24, [(23, .ref 7 0)], none, true, .ref 7 2, [], []⟩,
  ⟨some 25, [(24, .ref 7 2)], none, true, .int .i64 v2.value.to, [(7, .cells 111 [.int .i64 v2.value.kind, .int .i64 v2.value.frm, .int .i64 v2.value.to, .str v2.value.text, .sl Ty.sApiValue v2.value.items, .sl Ty.str v2.value.names, .sl Ty.sApiStep v2.steps])], []⟩,
  ⟨some 26, [(19, .sl Ty.sApiStep v3), (22, .int .i64 v2.value.frm), (25, .int .i64 v2.value.to)], none, true, .agg [.sl Ty.sApiStep v3, .int .i64 v2.value.frm, .int .i64 v2.value.to], [], []⟩,
  ⟨some 27, [(26, .agg [.sl Ty.sApiStep v3, .int .i64 v2.value.frm, .int .i64 v2.value.to])], none, true, .sf Ty.sEvalNode ([(⟨v3, v2.value.frm, v2.value.to⟩ : EvalNode)] : List EvalNode), [], []⟩,
  ⟨some 28, [(16, .mf 3 1005), (27, .sf Ty.sEvalNode ([(⟨v3, v2.value.frm, v2.value.to⟩ : EvalNode)] : List EvalNode))], none, true, .mf 3 3028, [(1005, .arr 40 Ty.sEvalNode a3)], [(3028, .arr 40 Ty.sEvalNode (a3 ++ ([(⟨v3, v2.value.frm, v2.value.to⟩ : EvalNode)] : List EvalNode))), (1005, .dead)]⟩,
  ⟨some 5, [(28, .mf 3 3028)], none, true, .mf 3 3028, [], []⟩] [[], [], [1], [1, 2], [], [4], [4, 5], [], [7], [7, 8], [1, 2, 3, 4, 5, 6, 7, 8, 9], [1, 2, 3, 4, 5, 6, 7, 8, 9, 10], [0, 1, 2, 3, 4, 5, 6, 7, 8, 9, 10, 11], [0, 1, 2, 3, 4, 5, 6, 7, 8, 9, 10, 11, 12]] (by kernel_rfl) (by kernel_rfl) (.cons (qok (dlt rfl rfl) rfl (.same rfl .nil) (NeedQ.all .nil) (fun Γx σx => ok_move (dlt rfl rfl) rfl rfl)) (.cons (qok (dlt rfl rfl) rfl (.same rfl .nil) (NeedQ.all .nil) (fun Γx σx => ok_fieldV (dlt rfl rfl) rfl fo111_1 ty38 (by decide) rfl)) (.cons (qok (dlt rfl rfl) rfl (.same rfl .nil) (NeedQ.all (.cons rfl .nil)) (fun Γx σx => ok_loadV (dlt rfl rfl) rfl ty38 rfl rfl rfl)) (.cons (qok (dlt rfl rfl) rfl (.same rfl .nil) (NeedQ.all .nil) (fun Γx σx => ok_call (xs := [.sl Ty.sApiStep v2.steps]) (caps := []) (dlt rfl rfl) rfl rfl Tryz.func65 rfl rfl rfl (d65 hv3) rfl)) (.cons (qok (dlt rfl rfl) rfl (.same rfl .nil) (NeedQ.all .nil) (fun Γx σx => ok_fieldV (dlt rfl rfl) rfl fo111_0 ty29 (by decide) rfl)) (.cons (qok (dlt rfl rfl) rfl (.same rfl .nil) (NeedQ.all .nil) (fun Γx σx => ok_fieldV (dlt rfl rfl) rfl fo29_1 ty3 (by decide) rfl)) (.cons (qok (dlt rfl rfl) rfl (.same rfl .nil) (NeedQ.all (.cons rfl .nil)) (fun Γx σx => ok_loadV (dlt rfl rfl) rfl ty3 rfl rfl rfl)) (.cons (qok (dlt rfl rfl) rfl (.same rfl .nil) (NeedQ.all .nil) (fun Γx σx => ok_fieldV (dlt rfl rfl) rfl fo111_0 ty29 (by decide) rfl)) (.cons (qok (dlt rfl rfl) rfl (.same rfl .nil) (NeedQ.all .nil) (fun Γx σx => ok_fieldV (dlt rfl rfl) rfl fo29_2 ty3 (by decide) rfl)) (.cons (qok (dlt rfl rfl) rfl (.same rfl .nil) (NeedQ.all (.cons rfl .nil)) (fun Γx σx => ok_loadV (dlt rfl rfl) rfl ty3 rfl rfl rfl)) (.cons (qok (dlt rfl rfl) rfl (.same rfl (.same rfl (.same rfl .nil))) (NeedQ.all .nil) (fun Γx σx => ok_build (dlt rfl rfl) rfl ty40 rfl pl40 rfl rfl rfl)) (.cons (qok (dlt rfl rfl) rfl (.same rfl .nil) (NeedQ.all .nil) (fun Γx σx => ok_lit (τ := Ty.sEvalNode) (dlt rfl rfl) ([(⟨v3, v2.value.frm, v2.value.to⟩ : EvalNode)] : List EvalNode) rfl Tryz.underlying33 ty40 rfl rfl rfl rfl rfl (by decide) (by decide) rfl)) (.cons (qokN (dlt rfl rfl) rfl (.same rfl (.same rfl .nil)) (NeedQ.all (.cons rfl .nil)) (fresh1 rfl rfl rfl) (fun Γx σx hfr => ok_appendL (τ := Ty.sEvalNode) (r := 1005) (xs := a3) (ys := ([(⟨v3, v2.value.frm, v2.value.to⟩ : EvalNode)] : List EvalNode)) (dlt rfl rfl) 3028 rfl Tryz.underlying33 ty40 rfl rfl rfl rfl (fun F ρ ac w _ h => src_sf h) (room_1 hv4) (room_2 hv4) (noM_app rfl (fresh2 rfl hfr).1) (noMH_app rfl (fresh2 rfl hfr).2))) (.cons (qok (dlt rfl rfl) rfl (.same rfl .nil) (NeedQ.all .nil) (fun Γx σx => ok_assign (dlt rfl rfl) rfl rfl)) (.nil _ _))))))))))))))) (.nil ?_)
   refine ak_inBlock ?_
   refine ak_regionS (.cons rfl (ok_add (dlt rfl rfl) rfl rfl rfl) (.cons rfl (ok_move (dlt rfl rfl) rfl rfl) (.nil ?_)))
   refine ak_inLoop ?_
   refine ak_conv (Γ' := [(5, .mf 3 3028), (10, .sl Ty.sEvalFound a0), (11, .int .i64 a1), (12, .int .i64 (IntKind.wrap .i64 (a2 + (1 : Int))))]) (σ' := [(3028, .arr 40 Ty.sEvalNode (a3 ++ ([(⟨v3, v2.value.frm, v2.value.to⟩ : EvalNode)] : List EvalNode)))]) (.cons rfl (.refl _) (.cons rfl (.refl _) (.cons rfl (.refl _) (.cons rfl (.refl _) (.nil _))))) (.cons rfl (.refl _) (.nil _)) ?_
   refine ak_ren 3028 1005 rfl rfl rfl rfl ?_
   exact ak_conv (.cons rfl (.refl _) (.cons rfl (.refl _) (.cons rfl (.refl _) (.cons rfl (.refl _) (.nil _))))) (.cons rfl (.refl _) (.nil _)) (ih _ _ h w F ρ)
  ·have h := cond_f ht h
   refine ak_exit rfl ?_
   refine ak_seq ?_
   refine ak_regionS (.cons rfl (ok_move (dlt rfl rfl) rfl rfl) (.cons rfl (ok_assign (dlt rfl rfl) rfl rfl) (.nil ?_)))
   obtain rfl := Option.some.inj h
   refine ak_freeze 1005 rfl ?_
   refine ak_conv (Γ' := [(4, .sl Ty.sEvalNode a3)]) (σ' := []) (.cons rfl (.refl _) (.nil _)) (.nil _) ?_
   exact ak_ret (fn := Tryz.f25) Tryz.func25 rfl trivial rfl)
theorem d25 {a0 : ApiValue} {a1 : List ApiSegment} {r : List EvalNode} (h : f25 (.e25 a0 a1) = some r) : Does Tryz.prog GG 25 [.agg [.int .i64 a0.kind, .int .i64 a0.frm, .int .i64 a0.to, .str a0.text, .sl Ty.sApiValue a0.items, .sl Ty.str a0.names], .sl Ty.sApiSegment a1] [] (fun z _ => z = .sl Ty.sEvalNode r) := fn_of (fn := Tryz.f25) Tryz.func25 rfl Tryz.ntmps25 rfl (w25 _ _ h)
/-- riffle/riffleref13.Same -/
noncomputable abbrev b44 : Code := codeOf Tryz.f44
inductive L44 where
 | e44 (a0 : List ApiStep) (a1 : List ApiStep)
 | l44_0 (a0 : List ApiStep) (a1 : List ApiStep) (a2 : Int) (a3 : Int)
noncomputable def f44 : L44 → Option Bool
 | .e44 a0 a1 =>
  if ((a0.length : Int) != (a1.length : Int)) = true then
   some false
  else
   f44 (.l44_0 a0 a1 (a0.length : Int) (0 : Int))
 | .l44_0 a0 a1 a2 a3 =>
  if (decide (a3 < a2)) = true then
   idx a0 a3 >>= fun v1 =>
   idx a1 a3 >>= fun v2 =>
   if (!(v1.named == v2.named && (v1.name == v2.name && (v1.index == v2.index && true)))) = true then
    some false
   else
    f44 (.l44_0 a0 a1 a2 (IntKind.wrap .i64 (a3 + (1 : Int))))
  else
   some true
 partial_fixpoint
def M44 : L44 → Bool → Prop
 | .e44 a0 a1, r => ∀ (w : World) (F : Nat → Prop) (ρ : Rho), AK Tryz.prog (ctx GG 26 w F ρ []) 44 [.code b44] (argE 0 [.sl Ty.sApiStep a0, .sl Ty.sApiStep a1]) [] (fun z _ => z = .bool r)
 | .l44_0 a0 a1 a2 a3, r => ∀ (w : World) (F : Nat → Prop) (ρ : Rho), AK Tryz.prog (ctx GG 26 w F ρ []) 44 [.code (c1 (c1 (c2 (c1 (c2 (c2 b44)))))), .inLoop (c1 (c1 (c2 (c1 (c2 (c2 b44)))))), .inBlock 0, .code (c2 (c2 (c2 b44)))] [(0, .sl Ty.sApiStep a0), (1, .sl Ty.sApiStep a1), (12, .int .i64 a2), (13, .int .i64 a3)] [] (fun z _ => z = .bool r)
theorem w44 : ∀ (l : L44) (r : Bool), f44 l = some r → M44 l r := f44.partial_correctness M44 (by
 intro f ih l r h
 cases l with
 | e44 a0 a1 =>
  intro w F ρ
  dsimp only at h
  refine ak_seq ?_
  refine ak_regionS (.cons rfl (ok_assign (dlt rfl rfl) rfl rfl) (.nil ?_))
  refine ak_seq ?_
  refine ak_seq ?_
  refine ak_regionS (.cons rfl (ok_move (dlt rfl rfl) rfl rfl) (.cons rfl (ok_lenS (τ := Ty.sApiStep) (xs := a0) (dlt rfl rfl) rfl Tryz.underlying38 rfl) (.cons rfl (ok_move (dlt rfl rfl) rfl rfl) (.cons rfl (ok_lenS (τ := Ty.sApiStep) (xs := a1) (dlt rfl rfl) rfl Tryz.underlying38 rfl) (.cons rfl (ok_neq (dlt rfl rfl) rfl rfl rfl) (.nil ?_))))))
  refine ak_cond rfl (fun ht => ?_) (fun ht => ?_)
  ·have h := cond_t ht h
   refine ak_seq ?_
   refine ak_regionS (.cons rfl (ok_assign (dlt rfl rfl) rfl rfl) (.nil ?_))
   obtain rfl := Option.some.inj h
   refine ak_conv (Γ' := [(4, .bool false)]) (σ' := []) (.cons rfl (.refl _) (.nil _)) (.nil _) ?_
   exact ak_ret (fn := Tryz.f44) Tryz.func44 rfl trivial rfl
  ·have h := cond_f ht h
   refine ak_skip ?_
   refine ak_seq ?_
   refine ak_seq ?_
   refine ak_regionS (.cons rfl (ok_move (dlt rfl rfl) rfl rfl) (.cons rfl (ok_lenS (τ := Ty.sApiStep) (xs := a0) (dlt rfl rfl) rfl Tryz.underlying38 rfl) (.cons rfl (ok_move (dlt rfl rfl) rfl rfl) (.nil ?_))))
   refine ak_block ?_
   refine ak_loop ?_
   exact ak_conv (.cons rfl (.refl _) (.cons rfl (.refl _) (.cons rfl (.refl _) (.cons rfl (.refl _) (.nil _))))) (.nil _) (ih _ _ h w F ρ)
 | l44_0 a0 a1 a2 a3 =>
  intro w F ρ
  dsimp only at h
  refine ak_seq ?_
  refine ak_regionS (.cons rfl (ok_lss (dlt rfl rfl) rfl rfl rfl) (.nil ?_))
  refine ak_seq ?_
  refine ak_cond rfl (fun ht => ?_) (fun ht => ?_)
  ·have h := cond_t ht h
   refine ak_skip ?_
   refine ak_seq ?_
   refine ak_block ?_
   refine ak_seq ?_
   refine ak_regionS (.cons rfl (ok_move (dlt rfl rfl) rfl rfl) (.cons rfl (ok_assign (dlt rfl rfl) rfl rfl) (.nil ?_)))
   refine ak_seq ?_
   obtain ⟨v1, hv1, h⟩ := bind_of h
   obtain ⟨v2, hv2, h⟩ := bind_of h
   refine ak_drawL [⟨some 16, [(0, .sl Ty.sApiStep a0)], none, true, .sl Ty.sApiStep a0, [], []⟩,
  ⟨some 17, [(5, .int .i64 a3)], none, true, .int .i64 a3, [], []⟩,
  ⟨some 18, [(16, .sl Ty.sApiStep a0), (17, .int .i64 a3)], none, true, .rp [.bool v1.named, .str v1.name, .int .i64 v1.index], [], []⟩,
  ⟨some 19, [(18, .rp [.bool v1.named, .str v1.name, .int .i64 v1.index])], none, true, .agg [.bool v1.named, .str v1.name, .int .i64 v1.index], [], []⟩,
  ⟨some 20, [(1, .sl Ty.sApiStep a1)], none, true, .sl Ty.sApiStep a1, [], []⟩,
  ⟨some 21, [(5, .int .i64 a3)], none, true, .int .i64 a3, [], []⟩,
  ⟨some 22, [(20, .sl Ty.sApiStep a1), (21, .int .i64 a3)], none, true, .rp [.bool v2.named, .str v2.name, .int .i64 v2.index], [], []⟩,
  ⟨some 23, [(22, .rp [.bool v2.named, .str v2.name, .int .i64 v2.index])], none, true, .agg [.bool v2.named, .str v2.name, .int .i64 v2.index], [], []⟩,
  ⟨some 24, [(19, .agg [.bool v1.named, .str v1.name, .int .i64 v1.index]), (23, .agg [.bool v2.named, .str v2.name, .int .i64 v2.index])], none, true, .bool (!(v1.named == v2.named && (v1.name == v2.name && (v1.index == v2.index && true)))), [], []⟩] [[], [], [0, 1], [0, 1, 2], [], [], [4, 5], [4, 5, 6], [0, 1, 2, 3, 4, 5, 6, 7]] (by kernel_rfl) (by kernel_rfl) (.cons (qok (dlt rfl rfl) rfl (.same rfl .nil) (NeedQ.all .nil) (fun Γx σx => ok_move (dlt rfl rfl) rfl rfl)) (.cons (qok (dlt rfl rfl) rfl (.same rfl .nil) (NeedQ.all .nil) (fun Γx σx => ok_move (dlt rfl rfl) rfl rfl)) (.cons (qok (dlt rfl rfl) rfl (.same rfl (.same rfl .nil)) (NeedQ.all .nil) (fun Γx σx => ok_indexS (τ := Ty.sApiStep) (x := v1) (dlt rfl rfl) rfl Tryz.underlying38 ty121 rfl rfl rfl (idx_0 hv1) (idx_1 hv1))) (.cons (qok (dlt rfl rfl) rfl (.same rfl .nil) (NeedQ.all .nil) (fun Γx σx => ok_loadRT (dlt rfl rfl) rfl ty121 rfl (by decide) rfl)) (.cons (qok (dlt rfl rfl) rfl (.same rfl .nil) (NeedQ.all .nil) (fun Γx σx => ok_move (dlt rfl rfl) rfl rfl)) (.cons (qok (dlt rfl rfl) rfl (.same rfl .nil) (NeedQ.all .nil) (fun Γx σx => ok_move (dlt rfl rfl) rfl rfl)) (.cons (qok (dlt rfl rfl) rfl (.same rfl (.same rfl .nil)) (NeedQ.all .nil) (fun Γx σx => ok_indexS (τ := Ty.sApiStep) (x := v2) (dlt rfl rfl) rfl Tryz.underlying38 ty121 rfl rfl rfl (idx_0 hv2) (idx_1 hv2))) (.cons (qok (dlt rfl rfl) rfl (.same rfl .nil) (NeedQ.all .nil) (fun Γx σx => ok_loadRT (dlt rfl rfl) rfl ty121 rfl (by decide) rfl)) (.cons (qok (dlt rfl rfl) rfl (.same rfl (.same rfl .nil)) (NeedQ.all .nil) (fun Γx σx => ok_neqA (cs := [.bool v1.named, .str v1.name, .int .i64 v1.index]) (ds := [.bool v2.named, .str v2.name, .int .i64 v2.index]) (dlt rfl rfl) rfl fl121 rfl rfl (by kernel_rfl))) (.nil _ _)))))))))) (.nil ?_)
   refine ak_cond rfl (fun ht => ?_) (fun ht => ?_)
   ·have h := cond_t ht h
    refine ak_seq ?_
    refine ak_regionS (.cons rfl (ok_assign (dlt rfl rfl) rfl rfl) (.nil ?_))
    obtain rfl := Option.some.inj h
    refine ak_conv (Γ' := [(4, .bool false)]) (σ' := []) (.cons rfl (.refl _) (.nil _)) (.nil _) ?_
    exact ak_ret (fn := Tryz.f44) Tryz.func44 rfl trivial rfl
   ·have h := cond_f ht h
    refine ak_skip ?_
    refine ak_inBlock ?_
    refine ak_regionS (.cons rfl (ok_add (dlt rfl rfl) rfl rfl rfl) (.cons rfl (ok_move (dlt rfl rfl) rfl rfl) (.nil ?_)))
    refine ak_inLoop ?_
    exact ak_conv (.cons rfl (.refl _) (.cons rfl (.refl _) (.cons rfl (.refl _) (.cons rfl (.refl _) (.nil _))))) (.nil _) (ih _ _ h w F ρ)
  ·have h := cond_f ht h
   refine ak_exit rfl ?_
   refine ak_seq ?_
   refine ak_regionS (.cons rfl (ok_assign (dlt rfl rfl) rfl rfl) (.nil ?_))
   obtain rfl := Option.some.inj h
   refine ak_conv (Γ' := [(4, .bool true)]) (σ' := []) (.cons rfl (.refl _) (.nil _)) (.nil _) ?_
   exact ak_ret (fn := Tryz.f44) Tryz.func44 rfl trivial rfl)
theorem d44 {a0 : List ApiStep} {a1 : List ApiStep} {r : Bool} (h : f44 (.e44 a0 a1) = some r) : Does Tryz.prog GG 44 [.sl Ty.sApiStep a0, .sl Ty.sApiStep a1] [] (fun z _ => z = .bool r) := fn_of (fn := Tryz.f44) Tryz.func44 rfl Tryz.ntmps44 rfl (w44 _ _ h)
end Go.Proofs.YtonlbdholdaifaaGreatDoor
end
