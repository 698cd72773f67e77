import Derived.Test.YtonlbdholdaifaaGreatDoorProg
import Derived.Test.YtonlbdholdaifaaGreatDoorRfp4
import Derived.Test.YtonlbdholdaifaaGreatDoorRgp1
import Derived.Test.YtonlbdholdaifaaGreatDoorRgp5
import Derived.Test.YtonlbdholdaifaaGreatDoorRgp6
import Derived.Test.YtonlbdholdaifaaGreatDoorRgp7
import Derived.Test.YtonlbdholdaifaaGreatDoorRgp2
section
set_option linter.unusedVariables false
set_option linter.unusedSimpArgs false
set_option maxRecDepth 10000
namespace Go.Proofs.YtonlbdholdaifaaGreatDoor
open Go Go.Rf Go.Proofs
/-- riffle/eval.Nodes -/
noncomputable abbrev b17 : Code := codeOf Tryz.f17
inductive L17 where
 | e17 (a0 : ApiValue) (a1 : List ApiSegment)
 | l17_0 (a0 : List EvalFound) (a1 : List ApiSegment) (a2 : Int) (a3 : Int)
 | l17_1 (a0 : List ApiSegment) (a1 : Int) (a2 : Int) (a3 : List EvalFound) (a4 : Int) (a5 : Int) (a6 : ApiSegment) (a7 : List EvalFound)
 | l17_2 (a0 : List EvalFound) (a1 : Int) (a2 : Int) (a3 : List EvalNode)
noncomputable def f17 : L17 → Option (List EvalNode)
 | .e17 a0 a1 =>
  f17 (.l17_0 ([(⟨a0, ([] : List ApiStep)⟩ : EvalFound)] : List EvalFound) a1 (a1.length : Int) (0 : Int))
 | .l17_0 a0 a1 a2 a3 =>
  if (decide (a3 < a2)) = true then
   idx a1 a3 >>= fun v1 =>
   f17 (.l17_1 a1 a2 a3 a0 (a0.length : Int) (0 : Int) v1 ([] : List EvalFound))
  else
   f17 (.l17_2 a0 (a0.length : Int) (0 : Int) ([] : List EvalNode))
 | .l17_1 a0 a1 a2 a3 a4 a5 a6 a7 =>
  if (decide (a5 < a4)) = true then
   idx a3 a5 >>= fun v2 =>
   f59 (.e59 v2 a7 a6) >>= fun v3 =>
   f17 (.l17_1 a0 a1 a2 a3 a4 (IntKind.wrap .i64 (a5 + (1 : Int))) a6 v3)
  else
   f60_61 (.e60_61 a7) >>= fun v4 =>
   f63_64 (.e63_64 v4) >>= fun v5 =>
   f17 (.l17_0 v5 a0 a1 (IntKind.wrap .i64 (a2 + (1 : Int))))
 | .l17_2 a0 a1 a2 a3 =>
  if (decide (a2 < a1)) = true then
   idx a0 a2 >>= fun v6 =>
   f65 (.e65 v6.steps) >>= fun v7 =>
   room a3.length ([(⟨v7, v6.value.frm, v6.value.to⟩ : EvalNode)] : List EvalNode).length 40 >>= fun v8 =>
   f17 (.l17_2 a0 a1 (IntKind.wrap .i64 (a2 + (1 : Int))) (a3 ++ ([(⟨v7, v6.value.frm, v6.value.to⟩ : EvalNode)] : List EvalNode)))
  else
   some a3
 partial_fixpoint
def M17 : L17 → (List EvalNode) → Prop
 | .e17 a0 a1, r => ∀ (w : World) (F : Nat → Prop) (ρ : Rho), AK Tryz.prog (ctx GG 60 w F ρ []) 17 [.code b17] (argE 0 [.agg [.int .i64 a0.kind, .int .i64 a0.frm, .int .i64 a0.to, .str a0.text, .sl Ty.sApiValue a0.items, .sl Ty.str a0.names], .sl Ty.sApiSegment a1]) [] (fun z _ => z = .sl Ty.sEvalNode r)
 | .l17_0 a0 a1 a2 a3, r => ∀ (w : World) (F : Nat → Prop) (ρ : Rho), AK Tryz.prog (ctx GG 60 w F ρ []) 17 [.code (c1 (c1 (c2 (c1 (c2 (c2 b17)))))), .inLoop (c1 (c1 (c2 (c1 (c2 (c2 b17)))))), .inBlock 0, .code (c2 (c2 (c2 b17)))] [(5, .sl Ty.sEvalFound a0), (17, .sl Ty.sApiSegment a1), (18, .int .i64 a2), (19, .int .i64 a3)] [] (fun z _ => z = .sl Ty.sEvalNode r)
 | .l17_1 a0 a1 a2 a3 a4 a5 a6 a7, r => ∀ (w : World) (F : Nat → Prop) (ρ : Rho), AK Tryz.prog (ctx GG 60 w F ρ []) 17 [.code (c1 (c1 (c2 (c1 (c2 (c2 (c1 (c1 (c2 (c2 (c1 (c1 (c2 (c1 (c2 (c2 b17)))))))))))))))), .inLoop (c1 (c1 (c2 (c1 (c2 (c2 (c1 (c1 (c2 (c2 (c1 (c1 (c2 (c1 (c2 (c2 b17)))))))))))))))), .inBlock 2, .code (c2 (c2 (c2 (c1 (c1 (c2 (c2 (c1 (c1 (c2 (c1 (c2 (c2 b17))))))))))))), .inBlock 1, .code (c2 (c2 (c2 (c1 (c1 (c2 (c1 (c2 (c2 b17))))))))), .inLoop (c1 (c1 (c2 (c1 (c2 (c2 b17)))))), .inBlock 0, .code (c2 (c2 (c2 b17)))] [(7, .ref 7 0), (8, .mf 7 60008), (17, .sl Ty.sApiSegment a0), (18, .int .i64 a1), (19, .int .i64 a2), (23, .sl Ty.sEvalFound a3), (24, .int .i64 a4), (25, .int .i64 a5)] [(7, .cells 47 [.bool a6.deep, .sl Ty.sApiSelector a6.selectors]), (60008, .arr 111 Ty.sEvalFound a7)] (fun z _ => z = .sl Ty.sEvalNode r)
 | .l17_2 a0 a1 a2 a3, r => ∀ (w : World) (F : Nat → Prop) (ρ : Rho), AK Tryz.prog (ctx GG 60 w F ρ []) 17 [.code (c1 (c1 (c2 (c1 (c2 (c2 (c2 (c2 b17)))))))), .inLoop (c1 (c1 (c2 (c1 (c2 (c2 (c2 (c2 b17)))))))), .inBlock 4, .code (c2 (c2 (c2 (c2 (c2 b17)))))] [(11, .mf 3 1011), (39, .sl Ty.sEvalFound a0), (40, .int .i64 a1), (41, .int .i64 a2)] [(1011, .arr 40 Ty.sEvalNode a3)] (fun z _ => z = .sl Ty.sEvalNode r)
theorem w17 : ∀ (l : L17) (r : List EvalNode), f17 l = some r → M17 l r := f17.partial_correctness M17 (by
 intro f ih l r h
 cases l with
 | e17 a0 a1 =>
  intro w F ρ
  dsimp only at h
  refine ak_seq ?_
  refine ak_regionS (.cons rfl (ok_box (d := 2) (dlt rfl rfl) rfl rfl rfl rfl rfl) (.cons rfl (ok_assign (dlt rfl rfl) rfl rfl) (.nil ?_)))
  refine ak_seq ?_
  refine ak_regionS (.cons rfl (ok_loadVT (dlt rfl rfl) rfl ty29 rfl rfl (by decide) rfl) (.cons rfl (ok_build (dlt rfl rfl) rfl ty111 rfl pl111 rfl rfl rfl) (.cons rfl (ok_litS (τ := Ty.sEvalFound) (dlt rfl rfl) ([(⟨a0, ([] : List ApiStep)⟩ : EvalFound)] : List EvalFound) rfl Tryz.underlying112 ty111 rfl rfl rfl rfl rfl (by decide) (by decide) rfl (.cons (.refl _) (.cons (.refl _) (.cons (.refl _) (.cons (.refl _) (.cons (.refl _) (.cons (.refl _) (.cons (sub_nils Ty.sApiStep) (.nil))))))))) (.cons rfl (ok_assign (dlt rfl rfl) rfl rfl) (.nil ?_)))))
  refine ak_seq ?_
  refine ak_seq ?_
  refine ak_regionS (.cons rfl (ok_move (dlt rfl rfl) rfl rfl) (.cons rfl (ok_lenS (τ := Ty.sApiSegment) (xs := a1) (dlt rfl rfl) rfl Tryz.underlying24 rfl) (.cons rfl (ok_move (dlt rfl rfl) rfl rfl) (.nil ?_))))
  refine ak_block ?_
  refine ak_loop ?_
  exact ak_conv (.cons rfl (sub_sf Ty.sEvalFound _) (.cons rfl (.refl _) (.cons rfl (.refl _) (.cons rfl (.refl _) (.nil _))))) (.nil _) (ih _ _ h w F ρ)
 | l17_0 a0 a1 a2 a3 =>
  intro w F ρ
  dsimp only at h
  refine ak_seq ?_
  refine ak_regionS (.cons rfl (ok_lss (dlt rfl rfl) rfl rfl rfl) (.nil ?_))
  refine ak_seq ?_
  refine ak_cond rfl (fun ht => ?_) (fun ht => ?_)
  ·have h := cond_t ht h
   refine ak_skip ?_
   refine ak_seq ?_
   refine ak_block ?_
   refine ak_seq ?_
   obtain ⟨v1, hv1, h⟩ := bind_of h
   refine ak_regionS (.cons rfl (ok_indexS (τ := Ty.sApiSegment) (x := v1) (dlt rfl rfl) rfl Tryz.underlying24 ty47 rfl rfl rfl (idx_0 hv1) (idx_1 hv1)) (.cons rfl (ok_loadRT (dlt rfl rfl) rfl ty47 rfl (by decide) rfl) (.cons rfl (ok_alloc (d := 7) (dlt rfl rfl) rfl ty47 rfl rfl rfl) (.cons rfl (ok_storeV rfl rfl ty47 rfl rfl rfl rfl (by decide) rfl rfl) (.nil ?_)))))
   refine ak_seq ?_
   refine ak_regionS (.cons rfl (ok_assign (dlt rfl rfl) rfl rfl) (.nil ?_))
   refine ak_seq ?_
   refine ak_seq ?_
   refine ak_regionS (.cons rfl (ok_move (dlt rfl rfl) rfl rfl) (.cons rfl (ok_lenS (τ := Ty.sEvalFound) (xs := a0) (dlt rfl rfl) rfl Tryz.underlying112 rfl) (.cons rfl (ok_move (dlt rfl rfl) rfl rfl) (.nil ?_))))
   refine ak_block ?_
   refine ak_loop ?_
   refine ak_nilRow (s := 8) (d := 5000) (e := 111) Ty.sEvalFound rfl rfl rfl ?_
   refine ak_conv (Γ' := [(7, .ref 7 0), (8, .mf 7 5000), (17, .sl Ty.sApiSegment a1), (18, .int .i64 a2), (19, .int .i64 a3), (23, .sl Ty.sEvalFound a0), (24, .int .i64 (a0.length : Int)), (25, .int .i64 (0 : Int))]) (σ' := [(7, .cells 47 [.bool v1.deep, .sl Ty.sApiSelector v1.selectors]), (5000, .arr 111 Ty.sEvalFound ([] : List EvalFound))]) (.cons rfl (.refl _) (.cons rfl (.refl _) (.cons rfl (.refl _) (.cons rfl (.refl _) (.cons rfl (.refl _) (.cons rfl (.refl _) (.cons rfl (.refl _) (.cons rfl (.refl _) (.nil _))))))))) (.cons rfl (.refl _) (.cons rfl (.refl _) (.nil _))) ?_
   refine ak_ren 5000 60008 rfl rfl rfl rfl ?_
   exact ak_conv (.cons rfl (.refl _) (.cons rfl (.refl _) (.cons rfl (.refl _) (.cons rfl (.refl _) (.cons rfl (.refl _) (.cons rfl (.refl _) (.cons rfl (.refl _) (.cons rfl (.refl _) (.nil _))))))))) (.cons rfl (.refl _) (.cons rfl (.refl _) (.nil _))) (ih _ _ h w F ρ)
  ·have h := cond_f ht h
   refine ak_exit rfl ?_
   refine ak_seq ?_
   refine ak_regionS (.cons rfl (ok_assign (dlt rfl rfl) rfl rfl) (.nil ?_))
   refine ak_nilRow (s := 11) (d := 1011) (e := 40) Ty.sEvalNode rfl rfl rfl ?_
   refine ak_seq ?_
   refine ak_seq ?_
   refine ak_regionS (.cons rfl (ok_move (dlt rfl rfl) rfl rfl) (.cons rfl (ok_lenS (τ := Ty.sEvalFound) (xs := a0) (dlt rfl rfl) rfl Tryz.underlying112 rfl) (.cons rfl (ok_move (dlt rfl rfl) rfl rfl) (.nil ?_))))
   refine ak_block ?_
   refine ak_loop ?_
   exact ak_conv (.cons rfl (.refl _) (.cons rfl (.refl _) (.cons rfl (.refl _) (.cons rfl (.refl _) (.nil _))))) (.cons rfl (.refl _) (.nil _)) (ih _ _ h w F ρ)
 | l17_1 a0 a1 a2 a3 a4 a5 a6 a7 =>
  intro w F ρ
  dsimp only at h
  refine ak_seq ?_
  refine ak_regionS (.cons rfl (ok_lss (dlt rfl rfl) rfl rfl rfl) (.nil ?_))
  refine ak_seq ?_
  refine ak_cond rfl (fun ht => ?_) (fun ht => ?_)
  ·have h := cond_t ht h
   refine ak_skip ?_
   refine ak_seq ?_
   refine ak_block ?_
   refine ak_seq ?_
   obtain ⟨v2, hv2, h⟩ := bind_of h
   refine ak_regionS (.cons rfl (ok_indexS (τ := Ty.sEvalFound) (x := v2) (dlt rfl rfl) rfl Tryz.underlying112 ty111 rfl rfl rfl (idx_0 hv2) (idx_1 hv2)) (.cons rfl (ok_loadRT (dlt rfl rfl) rfl ty111 rfl (by decide) rfl) (.cons rfl (ok_alloc (d := 10) (dlt rfl rfl) rfl ty111 rfl rfl rfl) (.cons rfl (ok_storeV rfl rfl ty111 rfl rfl rfl rfl (by decide) rfl rfl) (.nil ?_)))))
   obtain ⟨v3, hv3, h⟩ := bind_of h
   refine ak_regionS (.cons rfl (ok_loadVT (dlt rfl rfl) rfl ty111 rfl rfl (by decide) rfl) (.cons rfl (ok_move (dlt rfl rfl) rfl rfl) (.cons rfl (ok_loadVT (dlt rfl rfl) rfl ty47 rfl rfl (by decide) rfl) (.cons rfl (ok_callL (xs := [.agg [.int .i64 v2.value.kind, .int .i64 v2.value.frm, .int .i64 v2.value.to, .str v2.value.text, .sl Ty.sApiValue v2.value.items, .sl Ty.str v2.value.names, .sl Ty.sApiStep v2.steps], .mf 7 60008, .agg [.bool a6.deep, .sl Ty.sApiSelector a6.selectors]]) (caps := []) (xs1 := [.agg [.int .i64 v2.value.kind, .int .i64 v2.value.frm, .int .i64 v2.value.to, .str v2.value.text, .sl Ty.sApiValue v2.value.items, .sl Ty.str v2.value.names, .sl Ty.sApiStep v2.steps], .mf 7 60008, .agg [.bool a6.deep, .sl Ty.sApiSelector a6.selectors]]) (z := .mf 7 4032) (ups := [(60008, .dead), (4032, .arr 111 Ty.sEvalFound v3)]) (dlt rfl rfl) [(20100, (60008, none))] [(30000, (4032, none))] rfl rfl Tryz.func59 rfl rfl rfl (.cons (.refl _) (.cons (.refl _) (.cons (.refl _) (.nil)))) (.cons (.same rfl) (.cons (.mf rfl) (.cons (.same rfl) (.nil)))) (.arr rfl .nil) rfl (d59 hv3) (.dead (l := 20100) rfl rfl (.newA (l := 30000) rfl rfl .nil)) rfl rfl rfl (frAll rfl) rfl (.mf rfl)) (.cons rfl (ok_assign (dlt rfl rfl) rfl rfl) (.nil ?_))))))
   refine ak_inBlock ?_
   refine ak_regionS (.cons rfl (ok_add (dlt rfl rfl) rfl rfl rfl) (.cons rfl (ok_move (dlt rfl rfl) rfl rfl) (.nil ?_)))
   refine ak_inLoop ?_
   refine ak_conv (Γ' := [(7, .ref 7 0), (8, .mf 7 4032), (17, .sl Ty.sApiSegment a0), (18, .int .i64 a1), (19, .int .i64 a2), (23, .sl Ty.sEvalFound a3), (24, .int .i64 a4), (25, .int .i64 (IntKind.wrap .i64 (a5 + (1 : Int))))]) (σ' := [(7, .cells 47 [.bool a6.deep, .sl Ty.sApiSelector a6.selectors]), (4032, .arr 111 Ty.sEvalFound v3)]) (.cons rfl (.refl _) (.cons rfl (.refl _) (.cons rfl (.refl _) (.cons rfl (.refl _) (.cons rfl (.refl _) (.cons rfl (.refl _) (.cons rfl (.refl _) (.cons rfl (.refl _) (.nil _))))))))) (.cons rfl (.refl _) (.cons rfl (.refl _) (.nil _))) ?_
   refine ak_ren 4032 60008 rfl rfl rfl rfl ?_
   exact ak_conv (.cons rfl (.refl _) (.cons rfl (.refl _) (.cons rfl (.refl _) (.cons rfl (.refl _) (.cons rfl (.refl _) (.cons rfl (.refl _) (.cons rfl (.refl _) (.cons rfl (.refl _) (.nil _))))))))) (.cons rfl (.refl _) (.cons rfl (.refl _) (.nil _))) (ih _ _ h w F ρ)
  ·have h := cond_f ht h
   refine ak_exit rfl ?_
   refine ak_seq ?_
   obtain ⟨v4, hv4, h⟩ := bind_of h
   refine ak_regionS (.cons rfl (ok_move (dlt rfl rfl) rfl rfl) (.cons rfl (ok_callL (xs := [.mf 7 60008, .fn 61 []]) (caps := []) (xs1 := [.mf 7 60008, .fn 61 []]) (z := .tup []) (ups := [(60008, .arr 111 Ty.sEvalFound v4)]) (dlt rfl rfl) [(10000, (60008, none))] [] rfl rfl Tryz.func60 rfl rfl rfl (.cons (.refl _) (.cons (.refl _) (.nil))) (.cons (.mf rfl) (.cons (.same rfl) (.nil))) (.arr rfl .nil) rfl (d60_61 hv4) (.arr (l := 10000) rfl rfl rfl .nil) rfl rfl rfl (by intro d h; simp at h) rfl (.same rfl)) (.nil ?_)))
   obtain ⟨v5, hv5, h⟩ := bind_of h
   refine ak_regionS (.cons rfl (ok_move (dlt rfl rfl) rfl rfl) (.cons rfl (ok_callL (xs := [.mf 7 60008, .fn 64 []]) (caps := []) (xs1 := [.mf 7 60008, .fn 64 []]) (z := .mf 7 4037) (ups := [(60008, .dead), (4037, .arr 111 Ty.sEvalFound v5)]) (dlt rfl rfl) [(20000, (60008, none))] [(30000, (4037, none))] rfl rfl Tryz.func63 rfl rfl rfl (.cons (.refl _) (.cons (.refl _) (.nil))) (.cons (.mf rfl) (.cons (.same rfl) (.nil))) (.arr rfl .nil) rfl (d63_64 hv5) (.dead (l := 20000) rfl rfl (.newA (l := 30000) rfl rfl .nil)) rfl rfl rfl (frAll rfl) rfl (.mf rfl)) (.cons rfl (ok_assign (dlt rfl rfl) rfl rfl) (.nil ?_))))
   refine ak_inBlock ?_
   refine ak_regionS (.cons rfl (ok_add (dlt rfl rfl) rfl rfl rfl) (.cons rfl (ok_move (dlt rfl rfl) rfl rfl) (.nil ?_)))
   refine ak_inLoop ?_
   refine ak_freeze 4037 rfl ?_
   exact ak_conv (.cons rfl (.refl _) (.cons rfl (.refl _) (.cons rfl (.refl _) (.cons rfl (.refl _) (.nil _))))) (.nil _) (ih _ _ h w F ρ)
 | l17_2 a0 a1 a2 a3 =>
  intro w F ρ
  dsimp only at h
  refine ak_seq ?_
  refine ak_regionS (.cons rfl (ok_lss (dlt rfl rfl) rfl rfl rfl) (.nil ?_))
  refine ak_seq ?_
  refine ak_cond rfl (fun ht => ?_) (fun ht => ?_)
  ·have h := cond_t ht h
   refine ak_skip ?_
   refine ak_seq ?_
   refine ak_block ?_
   refine ak_seq ?_
   obtain ⟨v6, hv6, h⟩ := bind_of h
   refine ak_regionS (.cons rfl (ok_indexS (τ := Ty.sEvalFound) (x := v6) (dlt rfl rfl) rfl Tryz.underlying112 ty111 rfl rfl rfl (idx_0 hv6) (idx_1 hv6)) (.cons rfl (ok_loadRT (dlt rfl rfl) rfl ty111 rfl (by decide) rfl) (.cons rfl (ok_alloc (d := 13) (dlt rfl rfl) rfl ty111 rfl rfl rfl) (.cons rfl (ok_storeV rfl rfl ty111 rfl rfl rfl rfl (by decide) rfl rfl) (.nil ?_)))))
   obtain ⟨v7, hv7, h⟩ := bind_of h
   obtain ⟨v8, hv8, h⟩ := bind_of h
   refine ak_drawL [⟨some 45, [(11, .mf 3 1011)], none, true, .mf 3 1011, [], []⟩,
  ⟨some 46, [(13, .ref 13 0)], none, true, .ref 13 6, [], []⟩,
  ⟨some 47, [(46, .ref 13 6)], none, true, .sl Ty.sApiStep v6.steps, [(13, .cells 111 [.int .i64 v6.value.kind, .int .i64 v6.value.frm, .int .i64 v6.value.to, .str v6.value.text, .sl Ty.sApiValue v6.value.items, .sl Ty.str v6.value.names, .sl Ty.sApiStep v6.steps])], []⟩,
  ⟨some 48, [(47, .sl Ty.sApiStep v6.steps)], none, true, .sl Ty.sApiStep v7, [], []⟩,
  ⟨some 49, [(13, .ref 13 0)], none, true, .ref 13 0, [], []⟩,
  ⟨some 50, [(49, .ref 13 0)], none, true, .ref 13 1, [], []⟩,
  ⟨some 51, [(50, .ref 13 1)], none, true, .int .i64 v6.value.frm, [(13, .cells 111 [.int .i64 v6.value.kind, .int .i64 v6.value.frm, .int .i64 v6.value.to, .str v6.value.text, .sl Ty.sApiValue v6.value.items, .sl Ty.str v6.value.names, .sl Ty.sApiStep v6.steps])], []⟩,
  ⟨some 52, [(13, .ref 13 0)], none, true, .ref 13 0, [], []⟩,
  ⟨some 53, [(52, .ref 13 0)], none, true, .ref 13 2, [], []⟩,
  ⟨some 54, [(53, .ref 13 2)], none, true, .int .i64 v6.value.to, [(13, .cells 111 [.int .i64 v6.value.kind, .int .i64 v6.value.frm, .int .i64 v6.value.to, .str v6.value.text, .sl Ty.sApiValue v6.value.items, .sl Ty.str v6.value.names, .sl Ty.sApiStep v6.steps])], []⟩,
  ⟨some 55, [(48, .sl Ty.sApiStep v7), (51, .int .i64 v6.value.frm), (54, .int .i64 v6.value.to)], none, true, .agg [.sl Ty.sApiStep v7, .int .i64 v6.value.frm, .int .i64 v6.value.to], [], []⟩,
  ⟨some 56, [(55, .agg [.sl Ty.sApiStep v7, .int .i64 v6.value.frm, .int .i64 v6.value.to])], none, true, .sf Ty.sEvalNode ([(⟨v7, v6.value.frm, v6.value.to⟩ : EvalNode)] : List EvalNode), [], []⟩,
  ⟨some 57, [(45, .mf 3 1011), (56, .sf Ty.sEvalNode ([(⟨v7, v6.value.frm, v6.value.to⟩ : EvalNode)] : List EvalNode))], none, true, .mf 3 3057, [(1011, .arr 40 Ty.sEvalNode a3)], [(3057, .arr 40 Ty.sEvalNode (a3 ++ ([(⟨v7, v6.value.frm, v6.value.to⟩ : EvalNode)] : List EvalNode))), (1011, .dead)]⟩,
  ⟨some 11, [(57, .mf 3 3057)], none, true, .mf 3 3057, [], []⟩] [[], [], [1], [1, 2], [], [4], [4, 5], [], [7], [7, 8], [1, 2, 3, 4, 5, 6, 7, 8, 9], [1, 2, 3, 4, 5, 6, 7, 8, 9, 10], [0, 1, 2, 3, 4, 5, 6, 7, 8, 9, 10, 11], [0, 1, 2, 3, 4, 5, 6, 7, 8, 9, 10, 11, 12]] (by kernel_rfl) (by kernel_rfl) (.cons (qok (dlt rfl rfl) rfl (.same rfl .nil) (NeedQ.all .nil) (fun Γx σx => ok_move (dlt rfl rfl) rfl rfl)) (.cons (qok (dlt rfl rfl) rfl (.same rfl .nil) (NeedQ.all .nil) (fun Γx σx => ok_fieldV (dlt rfl rfl) rfl fo111_1 ty38 (by decide) rfl)) (.cons (qok (dlt rfl rfl) rfl (.same rfl .nil) (NeedQ.all (.cons rfl .nil)) (fun Γx σx => ok_loadV (dlt rfl rfl) rfl ty38 rfl rfl rfl)) (.cons (qok (dlt rfl rfl) rfl (.same rfl .nil) (NeedQ.all .nil) (fun Γx σx => ok_call (xs := [.sl Ty.sApiStep v6.steps]) (caps := []) (dlt rfl rfl) rfl rfl Tryz.func65 rfl rfl rfl (d65 hv7) rfl)) (.cons (qok (dlt rfl rfl) rfl (.same rfl .nil) (NeedQ.all .nil) (fun Γx σx => ok_fieldV (dlt rfl rfl) rfl fo111_0 ty29 (by decide) rfl)) (.cons (qok (dlt rfl rfl) rfl (.same rfl .nil) (NeedQ.all .nil) (fun Γx σx => ok_fieldV (dlt rfl rfl) rfl fo29_1 ty3 (by decide) rfl)) (.cons (qok (dlt rfl rfl) rfl (.same rfl .nil) (NeedQ.all (.cons rfl .nil)) (fun Γx σx => ok_loadV (dlt rfl rfl) rfl ty3 rfl rfl rfl)) (.cons (qok (dlt rfl rfl) rfl (.same rfl .nil) (NeedQ.all .nil) (fun Γx σx => ok_fieldV (dlt rfl rfl) rfl fo111_0 ty29 (by decide) rfl)) (.cons (qok (dlt rfl rfl) rfl (.same rfl .nil) (NeedQ.all .nil) (fun Γx σx => ok_fieldV (dlt rfl rfl) rfl fo29_2 ty3 (by decide) rfl)) (.cons (qok (dlt rfl rfl) rfl (.same rfl .nil) (NeedQ.all (.cons rfl .nil)) (fun Γx σx => ok_loadV (dlt rfl rfl) rfl ty3 rfl rfl rfl)) (.cons (qok (dlt rfl rfl) rfl (.same rfl (.same rfl (.same rfl .nil))) (NeedQ.all .nil) (fun Γx σx => ok_build (dlt rfl rfl) rfl ty40 rfl pl40 rfl rfl rfl)) (.cons (qok (dlt rfl rfl) rfl (.same rfl .nil) (NeedQ.all .nil) (fun Γx σx => ok_lit (τ := Ty.sEvalNode) (dlt rfl rfl) ([(⟨v7, v6.value.frm, v6.value.to⟩ : EvalNode)] : List EvalNode) rfl Tryz.underlying33 ty40 rfl rfl rfl rfl rfl (by decide) (by decide) rfl)) (.cons (qokN (dlt rfl rfl) rfl (.same rfl (.same rfl .nil)) (NeedQ.all (.cons rfl .nil)) (fresh1 rfl rfl rfl) (fun Γx σx hfr => ok_appendL (τ := Ty.sEvalNode) (r := 1011) (xs := a3) (ys := ([(⟨v7, v6.value.frm, v6.value.to⟩ : EvalNode)] : List EvalNode)) (dlt rfl rfl) 3057 rfl Tryz.underlying33 ty40 rfl rfl rfl rfl (fun F ρ ac w _ h => src_sf h) (room_1 hv8) (room_2 hv8) (noM_app rfl (fresh2 rfl hfr).1) (noMH_app rfl (fresh2 rfl hfr).2))) (.cons (qok (dlt rfl rfl) rfl (.same rfl .nil) (NeedQ.all .nil) (fun Γx σx => ok_assign (dlt rfl rfl) rfl rfl)) (.nil _ _))))))))))))))) (.nil ?_)
   refine ak_inBlock ?_
   refine ak_regionS (.cons rfl (ok_add (dlt rfl rfl) rfl rfl rfl) (.cons rfl (ok_move (dlt rfl rfl) rfl rfl) (.nil ?_)))
   refine ak_inLoop ?_
   refine ak_conv (Γ' := [(11, .mf 3 3057), (39, .sl Ty.sEvalFound a0), (40, .int .i64 a1), (41, .int .i64 (IntKind.wrap .i64 (a2 + (1 : Int))))]) (σ' := [(3057, .arr 40 Ty.sEvalNode (a3 ++ ([(⟨v7, v6.value.frm, v6.value.to⟩ : EvalNode)] : List EvalNode)))]) (.cons rfl (.refl _) (.cons rfl (.refl _) (.cons rfl (.refl _) (.cons rfl (.refl _) (.nil _))))) (.cons rfl (.refl _) (.nil _)) ?_
   refine ak_ren 3057 1011 rfl rfl rfl rfl ?_
   exact ak_conv (.cons rfl (.refl _) (.cons rfl (.refl _) (.cons rfl (.refl _) (.cons rfl (.refl _) (.nil _))))) (.cons rfl (.refl _) (.nil _)) (ih _ _ h w F ρ)
  ·have h := cond_f ht h
   refine ak_exit rfl ?_
   refine ak_seq ?_
   refine ak_regionS (.cons rfl (ok_move (dlt rfl rfl) rfl rfl) (.cons rfl (ok_assign (dlt rfl rfl) rfl rfl) (.nil ?_)))
   obtain rfl := Option.some.inj h
   refine ak_freeze 1011 rfl ?_
   refine ak_conv (Γ' := [(4, .sl Ty.sEvalNode a3)]) (σ' := []) (.cons rfl (.refl _) (.nil _)) (.nil _) ?_
   exact ak_ret (fn := Tryz.f17) Tryz.func17 rfl trivial rfl)
theorem d17 {a0 : ApiValue} {a1 : List ApiSegment} {r : List EvalNode} (h : f17 (.e17 a0 a1) = some r) : Does Tryz.prog GG 17 [.agg [.int .i64 a0.kind, .int .i64 a0.frm, .int .i64 a0.to, .str a0.text, .sl Ty.sApiValue a0.items, .sl Ty.str a0.names], .sl Ty.sApiSegment a1] [] (fun z _ => z = .sl Ty.sEvalNode r) := fn_of (fn := Tryz.f17) Tryz.func17 rfl Tryz.ntmps17 rfl (w17 _ _ h)
/-- riffle/rifflelaw16.evalAlive -/
noncomputable abbrev b14 : Code := codeOf Tryz.f14
inductive L14 where
 | e14
noncomputable def f14 : L14 → Option Bool
 | .e14 =>
  f57 (.e57 ([123, 34, 97, 34, 58, 91, 53, 44, 123, 34, 97, 34, 58, 54, 125, 93, 125] : List UInt8) (9 : Int)) >>= fun v1 =>
  f19 (.e19 ([36, 46, 46, 97] : List UInt8)) >>= fun v2 =>
  f17 (.e17 v1.1 v2.1) >>= fun v3 =>
  gd ((v3.length : Int) == (2 : Int)) (idx v3 (0 : Int)) >>= fun v4 =>
  gd (((v3.length : Int) == (2 : Int)) && (v4.frm == (5 : Int))) (idx v3 (1 : Int)) >>= fun v5 =>
  gd ((((v3.length : Int) == (2 : Int)) && (v4.frm == (5 : Int))) && (v5.frm == (13 : Int))) (idx v3 (1 : Int)) >>= fun v6 =>
  some (((((v3.length : Int) == (2 : Int)) && (v4.frm == (5 : Int))) && (v5.frm == (13 : Int))) && ((v6.steps.length : Int) == (3 : Int)))
def M14 : L14 → Bool → Prop
 | .e14, r => ∀ (w : World) (F : Nat → Prop) (ρ : Rho), AK Tryz.prog (ctx GG 42 w F ρ []) 14 [.code b14] (argE 0 []) [] (fun z _ => z = .bool r)
theorem w14 : ∀ (l : L14) (r : Bool), f14 l = some r → M14 l r := (by
 intro l r h
 cases l with
 | e14 =>
  intro w F ρ
  dsimp only [f14] at h
  refine ak_seq ?_
  refine ak_regionS (.cons rfl (ok_assign (dlt rfl rfl) rfl rfl) (.nil ?_))
  refine ak_seq ?_
  obtain ⟨v1, hv1, h⟩ := bind_of h
  refine ak_regionS (.cons rfl (ok_call (xs := [.str ([123, 34, 97, 34, 58, 91, 53, 44, 123, 34, 97, 34, 58, 54, 125, 93, 125] : List UInt8), .int .i64 (9 : Int)]) (caps := []) (dlt rfl rfl) rfl rfl Tryz.func57 rfl rfl rfl (d57 hv1) rfl) (.cons rfl (ok_move (dlt rfl rfl) rfl rfl) (.cons rfl (ok_extract (dlt rfl rfl) rfl rfl rfl) (.cons rfl (ok_extract (dlt rfl rfl) rfl rfl rfl) (.cons rfl (ok_alloc (d := 1) (dlt rfl rfl) rfl ty29 rfl rfl rfl) (.cons rfl (ok_alloc (d := 2) (dlt rfl rfl) rfl ty57 rfl rfl rfl) (.cons rfl (ok_storeV rfl rfl ty29 rfl rfl rfl rfl (by decide) rfl rfl) (.cons rfl (ok_storeV rfl rfl ty57 rfl rfl rfl rfl (by decide) rfl rfl) (.nil ?_)))))))))
  refine ak_seq ?_
  obtain ⟨v2, hv2, h⟩ := bind_of h
  refine ak_regionS (.cons rfl (ok_call (xs := [.str ([36, 46, 46, 97] : List UInt8)]) (caps := []) (dlt rfl rfl) rfl rfl Tryz.func19 rfl rfl rfl (d19 hv2) rfl) (.cons rfl (ok_move (dlt rfl rfl) rfl rfl) (.cons rfl (ok_extract (dlt rfl rfl) rfl rfl rfl) (.cons rfl (ok_extract (dlt rfl rfl) rfl rfl rfl) (.cons rfl (ok_assign (dlt rfl rfl) rfl rfl) (.cons rfl (ok_assign (dlt rfl rfl) rfl rfl) (.nil ?_)))))))
  refine ak_seq ?_
  obtain ⟨v3, hv3, h⟩ := bind_of h
  refine ak_regionS (.cons rfl (ok_loadVT (dlt rfl rfl) rfl ty29 rfl rfl (by decide) rfl) (.cons rfl (ok_move (dlt rfl rfl) rfl rfl) (.cons rfl (ok_call (xs := [.agg [.int .i64 v1.1.kind, .int .i64 v1.1.frm, .int .i64 v1.1.to, .str v1.1.text, .sl Ty.sApiValue v1.1.items, .sl Ty.str v1.1.names], .sl Ty.sApiSegment v2.1]) (caps := []) (dlt rfl rfl) rfl rfl Tryz.func17 rfl rfl rfl (d17 hv3) rfl) (.cons rfl (ok_assign (dlt rfl rfl) rfl rfl) (.nil ?_)))))
  refine ak_seq ?_
  obtain ⟨v4, hv4, h⟩ := bind_of h
  obtain ⟨v5, hv5, h⟩ := bind_of h
  obtain ⟨v6, hv6, h⟩ := bind_of h
  refine ak_regionS (.cons rfl (ok_move (dlt rfl rfl) rfl rfl) (.cons rfl (ok_lenS (τ := Ty.sEvalNode) (xs := v3) (dlt rfl rfl) rfl Tryz.underlying33 rfl) (.cons rfl (ok_eql (dlt rfl rfl) rfl rfl rfl) (.cons rfl (ok_move (dlt rfl rfl) rfl rfl) (.consG (pre := []) (dlt rfl rfl) rfl rfl rfl rfl .nil (fun he => ok_move (dlt rfl rfl) rfl rfl) (.consG (pre := [(21, .sl Ty.sEvalNode v3)]) (dlt rfl rfl) rfl rfl rfl rfl (.cons rfl (fun he => he) .nil) (fun he => ok_indexS (τ := Ty.sEvalNode) (x := v4) (dlt rfl rfl) rfl Tryz.underlying33 ty40 rfl rfl rfl (idx_0 (gd_t hv4 he)) (idx_1 (gd_t hv4 he))) (.consG (pre := [(22, .rp [.sl Ty.sApiStep v4.steps, .int .i64 v4.frm, .int .i64 v4.to])]) (dlt rfl rfl) rfl rfl rfl rfl (.cons rfl (fun he => he) .nil) (fun he => ok_fieldR (cs := [.sl Ty.sApiStep v4.steps, .int .i64 v4.frm, .int .i64 v4.to]) (dlt rfl rfl) rfl fo40_1 ty3 (by decide) rfl) (.consG (pre := [(23, .rp [.int .i64 v4.frm, .int .i64 v4.to])]) (dlt rfl rfl) rfl rfl rfl rfl (.cons rfl (fun he => he) .nil) (fun he => ok_loadR (dlt rfl rfl) rfl ty3 rfl rfl) (.consG (pre := [(24, .int .i64 v4.frm)]) (dlt rfl rfl) rfl rfl rfl rfl (.cons rfl (fun he => he) .nil) (fun he => ok_eql (dlt rfl rfl) rfl rfl rfl) (.cons rfl (ok_andW (dlt rfl rfl) rfl rfl rfl (fun h => h)) (.cons rfl (ok_move (dlt rfl rfl) rfl rfl) (.consG (pre := []) (dlt rfl rfl) rfl rfl rfl rfl .nil (fun he => ok_move (dlt rfl rfl) rfl rfl) (.consG (pre := [(28, .sl Ty.sEvalNode v3)]) (dlt rfl rfl) rfl rfl rfl rfl (.cons rfl (fun he => he) .nil) (fun he => ok_indexS (τ := Ty.sEvalNode) (x := v5) (dlt rfl rfl) rfl Tryz.underlying33 ty40 rfl rfl rfl (idx_0 (gd_t hv5 he)) (idx_1 (gd_t hv5 he))) (.consG (pre := [(29, .rp [.sl Ty.sApiStep v5.steps, .int .i64 v5.frm, .int .i64 v5.to])]) (dlt rfl rfl) rfl rfl rfl rfl (.cons rfl (fun he => he) .nil) (fun he => ok_fieldR (cs := [.sl Ty.sApiStep v5.steps, .int .i64 v5.frm, .int .i64 v5.to]) (dlt rfl rfl) rfl fo40_1 ty3 (by decide) rfl) (.consG (pre := [(30, .rp [.int .i64 v5.frm, .int .i64 v5.to])]) (dlt rfl rfl) rfl rfl rfl rfl (.cons rfl (fun he => he) .nil) (fun he => ok_loadR (dlt rfl rfl) rfl ty3 rfl rfl) (.consG (pre := [(31, .int .i64 v5.frm)]) (dlt rfl rfl) rfl rfl rfl rfl (.cons rfl (fun he => he) .nil) (fun he => ok_eql (dlt rfl rfl) rfl rfl rfl) (.cons rfl (ok_andW (dlt rfl rfl) rfl rfl rfl (fun h => h)) (.cons rfl (ok_move (dlt rfl rfl) rfl rfl) (.consG (pre := []) (dlt rfl rfl) rfl rfl rfl rfl .nil (fun he => ok_move (dlt rfl rfl) rfl rfl) (.consG (pre := [(35, .sl Ty.sEvalNode v3)]) (dlt rfl rfl) rfl rfl rfl rfl (.cons rfl (fun he => he) .nil) (fun he => ok_indexS (τ := Ty.sEvalNode) (x := v6) (dlt rfl rfl) rfl Tryz.underlying33 ty40 rfl rfl rfl (idx_0 (gd_t hv6 he)) (idx_1 (gd_t hv6 he))) (.consG (pre := [(36, .rp [.sl Ty.sApiStep v6.steps, .int .i64 v6.frm, .int .i64 v6.to])]) (dlt rfl rfl) rfl rfl rfl rfl (.cons rfl (fun he => he) .nil) (fun he => ok_fieldR (cs := [.sl Ty.sApiStep v6.steps, .int .i64 v6.frm, .int .i64 v6.to]) (dlt rfl rfl) rfl fo40_0 ty38 (by decide) rfl) (.consG (pre := [(37, .rp [.sl Ty.sApiStep v6.steps, .int .i64 v6.frm, .int .i64 v6.to])]) (dlt rfl rfl) rfl rfl rfl rfl (.cons rfl (fun he => he) .nil) (fun he => ok_loadR (dlt rfl rfl) rfl ty38 rfl rfl) (.consG (pre := [(38, .sl Ty.sApiStep v6.steps)]) (dlt rfl rfl) rfl rfl rfl rfl (.cons rfl (fun he => he) .nil) (fun he => ok_lenS (τ := Ty.sApiStep) (xs := v6.steps) (dlt rfl rfl) rfl Tryz.underlying38 rfl) (.consG (pre := [(39, .int .i64 (v6.steps.length : Int))]) (dlt rfl rfl) rfl rfl rfl rfl (.cons rfl (fun he => he) .nil) (fun he => ok_eql (dlt rfl rfl) rfl rfl rfl) (.cons rfl (ok_andW (dlt rfl rfl) rfl rfl rfl (fun h => h)) (.cons rfl (ok_assign (dlt rfl rfl) rfl rfl) (.nil ?_)))))))))))))))))))))))))))
  obtain rfl := Option.some.inj h
  refine ak_conv (Γ' := [(0, .bool (((((v3.length : Int) == (2 : Int)) && (v4.frm == (5 : Int))) && (v5.frm == (13 : Int))) && ((v6.steps.length : Int) == (3 : Int))))]) (σ' := []) (.cons rfl (.refl _) (.nil _)) (.nil _) ?_
  exact ak_ret (fn := Tryz.f14) Tryz.func14 rfl trivial rfl)
theorem d14 {r : Bool} (h : f14 (.e14) = some r) : Does Tryz.prog GG 14 [] [] (fun z _ => z = .bool r) := fn_of (fn := Tryz.f14) Tryz.func14 rfl Tryz.ntmps14 rfl (w14 _ _ h)
/-- riffle/riffleref15.fits -/
noncomputable abbrev b168 : Code := codeOf Tryz.f168
inductive L168 where
 | e168 (a0 : Int)
noncomputable def f168 : L168 → Option Bool
 | .e168 a0 =>
  some ((decide (a0 ≤ (9007199254740991 : Int))) && (decide ((-9007199254740991) ≤ a0)))
def M168 : L168 → Bool → Prop
 | .e168 a0, r => ∀ (w : World) (F : Nat → Prop) (ρ : Rho), AK Tryz.prog (ctx GG 9 w F ρ []) 168 [.code b168] (argE 0 [.int .i64 a0]) [] (fun z _ => z = .bool r)
theorem w168 : ∀ (l : L168) (r : Bool), f168 l = some r → M168 l r := (by
 intro l r h
 cases l with
 | e168 a0 =>
  intro w F ρ
  dsimp only [f168] at h
  refine ak_seq ?_
  refine ak_regionS (.cons rfl (ok_assign (dlt rfl rfl) rfl rfl) (.nil ?_))
  refine ak_seq ?_
  refine ak_regionS (.cons rfl (ok_move (dlt rfl rfl) rfl rfl) (.cons rfl (ok_leq (dlt rfl rfl) rfl rfl rfl) (.cons rfl (ok_move (dlt rfl rfl) rfl rfl) (.consG (pre := []) (dlt rfl rfl) rfl rfl rfl rfl .nil (fun he => ok_move (dlt rfl rfl) rfl rfl) (.consG (pre := [(6, .int .i64 a0)]) (dlt rfl rfl) rfl rfl rfl rfl (.cons rfl (fun he => he) .nil) (fun he => ok_geq (dlt rfl rfl) rfl rfl rfl) (.cons rfl (ok_andW (dlt rfl rfl) rfl rfl rfl (fun h => h)) (.cons rfl (ok_assign (dlt rfl rfl) rfl rfl) (.nil ?_))))))))
  obtain rfl := Option.some.inj h
  refine ak_conv (Γ' := [(2, .bool ((decide (a0 ≤ (9007199254740991 : Int))) && (decide ((-9007199254740991) ≤ a0))))]) (σ' := []) (.cons rfl (.refl _) (.nil _)) (.nil _) ?_
  exact ak_ret (fn := Tryz.f168) Tryz.func168 rfl trivial rfl)
theorem d168 {a0 : Int} {r : Bool} (h : f168 (.e168 a0) = some r) : Does Tryz.prog GG 168 [.int .i64 a0] [] (fun z _ => z = .bool r) := fn_of (fn := Tryz.f168) Tryz.func168 rfl Tryz.ntmps168 rfl (w168 _ _ h)
end Go.Proofs.YtonlbdholdaifaaGreatDoor
end
section
set_option linter.unusedVariables false
set_option linter.unusedSimpArgs false
set_option maxRecDepth 10000
namespace Go.Proofs.YtonlbdholdaifaaGreatDoor
open Go Go.Rf Go.Proofs
/-- riffle/riffleref02.Bad -/
noncomputable abbrev b124 : Code := codeOf Tryz.f124
inductive L124 where
 | e124 (a0 : List UInt8)
 | l124_0 (a0 : List UInt8) (a1 : Int) (a2 : Int)
 | l124_1 (a0 : List UInt8) (a1 : Int) (a2 : Int)
noncomputable def f124 : L124 → Option Int
 | .e124 a0 =>
  f124 (.l124_0 a0 (0 : Int) (0 : Int))
 | .l124_0 a0 a1 a2 =>
  if (decide (a2 < (a0.length : Int))) = true then
   need (0 ≤ a1 ∧ a1 ≤ (IntKind.wrap .i64 (a2 + (1 : Int))) ∧ (IntKind.wrap .i64 (a2 + (1 : Int))) ≤ (a0.length : Int)) >>= fun v1 =>
   f176 (.e176 ((a0.take (IntKind.wrap .i64 (a2 + (1 : Int))).toNat).drop a1.toNat)) >>= fun v2 =>
   if (!v2.1) = true then
    some a2
   else
    if v2.2.1 = true then
     f124 (.l124_1 a0 (IntKind.wrap .i64 (a2 + (1 : Int))) a2)
    else
     f124 (.l124_1 a0 a1 a2)
  else
   if (decide (a1 < (a0.length : Int))) = true then
    some (a0.length : Int)
   else
    some (-1)
 | .l124_1 a0 a1 a2 =>
  f124 (.l124_0 a0 a1 (IntKind.wrap .i64 (a2 + (1 : Int))))
 partial_fixpoint
def M124 : L124 → Int → Prop
 | .e124 a0, r => ∀ (w : World) (F : Nat → Prop) (ρ : Rho), AK Tryz.prog (ctx GG 36 w F ρ []) 124 [.code b124] (argE 0 [.str a0]) [] (fun z _ => z = .int .i64 r)
 | .l124_0 a0 a1 a2, r => ∀ (w : World) (F : Nat → Prop) (ρ : Rho), AK Tryz.prog (ctx GG 36 w F ρ []) 124 [.code (c1 (c1 (c2 (c1 (c2 (c2 b124)))))), .inLoop (c1 (c1 (c2 (c1 (c2 (c2 b124)))))), .inBlock 0, .code (c2 (c2 (c2 b124)))] [(0, .str a0), (3, .int .i64 a1), (4, .int .i64 a2)] [] (fun z _ => z = .int .i64 r)
 | .l124_1 a0 a1 a2, r => ∀ (w : World) (F : Nat → Prop) (ρ : Rho), AK Tryz.prog (ctx GG 36 w F ρ []) 124 [.inBlock 1, .code (c2 (c2 (c1 (c1 (c2 (c1 (c2 (c2 b124)))))))), .inLoop (c1 (c1 (c2 (c1 (c2 (c2 b124)))))), .inBlock 0, .code (c2 (c2 (c2 b124)))] [(0, .str a0), (3, .int .i64 a1), (4, .int .i64 a2)] [] (fun z _ => z = .int .i64 r)
theorem w124 : ∀ (l : L124) (r : Int), f124 l = some r → M124 l r := f124.partial_correctness M124 (by
 intro f ih l r h
 cases l with
 | e124 a0 =>
  intro w F ρ
  dsimp only at h
  refine ak_seq ?_
  refine ak_regionS (.cons rfl (ok_assign (dlt rfl rfl) rfl rfl) (.nil ?_))
  refine ak_seq ?_
  refine ak_regionS (.cons rfl (ok_assign (dlt rfl rfl) rfl rfl) (.nil ?_))
  refine ak_seq ?_
  refine ak_seq ?_
  refine ak_regionS (.cons rfl (ok_assign (dlt rfl rfl) rfl rfl) (.nil ?_))
  refine ak_block ?_
  refine ak_loop ?_
  exact ak_conv (.cons rfl (.refl _) (.cons rfl (.refl _) (.cons rfl (.refl _) (.nil _)))) (.nil _) (ih _ _ h w F ρ)
 | l124_0 a0 a1 a2 =>
  intro w F ρ
  dsimp only at h
  refine ak_seq ?_
  refine ak_seq ?_
  refine ak_regionS (.cons rfl (ok_move (dlt rfl rfl) rfl rfl) (.cons rfl (ok_move (dlt rfl rfl) rfl rfl) (.cons rfl (ok_lenT (s := a0) (dlt rfl rfl) rfl Tryz.underlying9 rfl) (.cons rfl (ok_lss (dlt rfl rfl) rfl rfl rfl) (.nil ?_)))))
  refine ak_cond rfl (fun ht => ?_) (fun ht => ?_)
  ·have h := cond_t ht h
   refine ak_skip ?_
   refine ak_seq ?_
   refine ak_block ?_
   refine ak_seq ?_
   obtain ⟨v1, hv1, h⟩ := bind_of h
   obtain ⟨v2, hv2, h⟩ := bind_of h
   refine ak_regionS (.cons rfl (ok_move (dlt rfl rfl) rfl rfl) (.cons rfl (ok_move (dlt rfl rfl) rfl rfl) (.cons rfl (ok_move (dlt rfl rfl) rfl rfl) (.cons rfl (ok_add (dlt rfl rfl) rfl rfl rfl) (.cons rfl (ok_cutLH (dlt rfl rfl) rfl Tryz.underlying9 rfl rfl rfl (need_of hv1).1 (need_of hv1).2.1 (need_of hv1).2.2) (.cons rfl (ok_call (xs := [.str ((a0.take (IntKind.wrap .i64 (a2 + (1 : Int))).toNat).drop a1.toNat)]) (caps := []) (dlt rfl rfl) rfl rfl Tryz.func176 rfl rfl rfl (d176 hv2) rfl) (.cons rfl (ok_move (dlt rfl rfl) rfl rfl) (.cons rfl (ok_extract (dlt rfl rfl) rfl rfl rfl) (.cons rfl (ok_extract (dlt rfl rfl) rfl rfl rfl) (.cons rfl (ok_extract (dlt rfl rfl) rfl rfl rfl) (.cons rfl (ok_assign (dlt rfl rfl) rfl rfl) (.cons rfl (ok_assign (dlt rfl rfl) rfl rfl) (.cons rfl (ok_assign (dlt rfl rfl) rfl rfl) (.nil ?_))))))))))))))
   refine ak_seq ?_
   refine ak_seq ?_
   refine ak_regionS (.cons rfl (ok_move (dlt rfl rfl) rfl rfl) (.cons rfl (ok_not (dlt rfl rfl) rfl rfl) (.nil ?_)))
   refine ak_cond rfl (fun ht => ?_) (fun ht => ?_)
   ·have h := cond_t ht h
    refine ak_seq ?_
    refine ak_regionS (.cons rfl (ok_move (dlt rfl rfl) rfl rfl) (.cons rfl (ok_assign (dlt rfl rfl) rfl rfl) (.nil ?_)))
    obtain rfl := Option.some.inj h
    refine ak_conv (Γ' := [(2, .int .i64 a2)]) (σ' := []) (.cons rfl (.refl _) (.nil _)) (.nil _) ?_
    exact ak_ret (fn := Tryz.f124) Tryz.func124 rfl trivial rfl
   ·have h := cond_f ht h
    refine ak_skip ?_
    refine ak_seq ?_
    refine ak_regionS (.cons rfl (ok_move (dlt rfl rfl) rfl rfl) (.nil ?_))
    refine ak_cond rfl (fun ht => ?_) (fun ht => ?_)
    ·have h := cond_t ht h
     refine ak_regionS (.cons rfl (ok_move (dlt rfl rfl) rfl rfl) (.cons rfl (ok_add (dlt rfl rfl) rfl rfl rfl) (.cons rfl (ok_assign (dlt rfl rfl) rfl rfl) (.nil ?_))))
     exact ak_conv (.cons rfl (.refl _) (.cons rfl (.refl _) (.cons rfl (.refl _) (.nil _)))) (.nil _) (ih _ _ h w F ρ)
    ·have h := cond_f ht h
     refine ak_skip ?_
     exact ak_conv (.cons rfl (.refl _) (.cons rfl (.refl _) (.cons rfl (.refl _) (.nil _)))) (.nil _) (ih _ _ h w F ρ)
  ·have h := cond_f ht h
   refine ak_exit rfl ?_
   refine ak_seq ?_
   refine ak_seq ?_
   refine ak_regionS (.cons rfl (ok_move (dlt rfl rfl) rfl rfl) (.cons rfl (ok_move (dlt rfl rfl) rfl rfl) (.cons rfl (ok_lenT (s := a0) (dlt rfl rfl) rfl Tryz.underlying9 rfl) (.cons rfl (ok_lss (dlt rfl rfl) rfl rfl rfl) (.nil ?_)))))
   refine ak_cond rfl (fun ht => ?_) (fun ht => ?_)
   ·have h := cond_t ht h
    refine ak_seq ?_
    refine ak_regionS (.cons rfl (ok_move (dlt rfl rfl) rfl rfl) (.cons rfl (ok_lenT (s := a0) (dlt rfl rfl) rfl Tryz.underlying9 rfl) (.cons rfl (ok_assign (dlt rfl rfl) rfl rfl) (.nil ?_))))
    obtain rfl := Option.some.inj h
    refine ak_conv (Γ' := [(2, .int .i64 (a0.length : Int))]) (σ' := []) (.cons rfl (.refl _) (.nil _)) (.nil _) ?_
    exact ak_ret (fn := Tryz.f124) Tryz.func124 rfl trivial rfl
   ·have h := cond_f ht h
    refine ak_skip ?_
    refine ak_seq ?_
    refine ak_regionS (.cons rfl (ok_assign (dlt rfl rfl) rfl rfl) (.nil ?_))
    obtain rfl := Option.some.inj h
    refine ak_conv (Γ' := [(2, .int .i64 (-1))]) (σ' := []) (.cons rfl (.refl _) (.nil _)) (.nil _) ?_
    exact ak_ret (fn := Tryz.f124) Tryz.func124 rfl trivial rfl
 | l124_1 a0 a1 a2 =>
  intro w F ρ
  dsimp only at h
  refine ak_inBlock ?_
  refine ak_regionS (.cons rfl (ok_move (dlt rfl rfl) rfl rfl) (.cons rfl (ok_add (dlt rfl rfl) rfl rfl rfl) (.cons rfl (ok_assign (dlt rfl rfl) rfl rfl) (.nil ?_))))
  refine ak_inLoop ?_
  exact ak_conv (.cons rfl (.refl _) (.cons rfl (.refl _) (.cons rfl (.refl _) (.nil _)))) (.nil _) (ih _ _ h w F ρ))
theorem d124 {a0 : List UInt8} {r : Int} (h : f124 (.e124 a0) = some r) : Does Tryz.prog GG 124 [.str a0] [] (fun z _ => z = .int .i64 r) := fn_of (fn := Tryz.f124) Tryz.func124 rfl Tryz.ntmps124 rfl (w124 _ _ h)
/-- riffle/riffleref15.Good -/
noncomputable abbrev b113 : Code := codeOf Tryz.f113
inductive L113 where
 | e113 (a0 : ApiSelector)
noncomputable def f113 : L113 → Option Bool
 | .e113 a0 =>
  if ((decide (a0.kind < (0 : Int))) || (decide ((3 : Int) < a0.kind))) = true then
   some false
  else
   if (((a0.kind != (0 : Int)) && (a0.name != ([] : List UInt8))) || ((a0.kind != (2 : Int)) && (a0.index != (0 : Int)))) = true then
    some false
   else
    if ((a0.kind != (3 : Int)) && (((((a0.start != (0 : Int)) || (a0.stop != (0 : Int))) || (a0.stride != (0 : Int))) || a0.hasStart) || a0.hasEnd)) = true then
     some false
    else
     if (((!a0.hasStart) && (a0.start != (0 : Int))) || ((!a0.hasEnd) && (a0.stop != (0 : Int)))) = true then
      some false
     else
      f168 (.e168 a0.index) >>= fun v1 =>
      gd v1 (f168 (.e168 a0.start)) >>= fun v2 =>
      gd (v1 && v2) (f168 (.e168 a0.stop)) >>= fun v3 =>
      gd ((v1 && v2) && v3) (f168 (.e168 a0.stride)) >>= fun v4 =>
      gd (((v1 && v2) && v3) && v4) (f124 (.e124 a0.name)) >>= fun v5 =>
      some ((((v1 && v2) && v3) && v4) && (v5 == (-1)))
def M113 : L113 → Bool → Prop
 | .e113 a0, r => ∀ (w : World) (F : Nat → Prop) (ρ : Rho), AK Tryz.prog (ctx GG 97 w F ρ []) 113 [.code b113] (argE 0 [.agg [.int .i64 a0.kind, .str a0.name, .int .i64 a0.index, .int .i64 a0.start, .int .i64 a0.stop, .bool a0.hasStart, .bool a0.hasEnd, .int .i64 a0.stride]]) [] (fun z _ => z = .bool r)
theorem w113 : ∀ (l : L113) (r : Bool), f113 l = some r → M113 l r := (by
 intro l r h
 cases l with
 | e113 a0 =>
  intro w F ρ
  dsimp only [f113] at h
  refine ak_seq ?_
  refine ak_regionS (.cons rfl (ok_box (d := 1) (dlt rfl rfl) rfl rfl rfl rfl rfl) (.cons rfl (ok_assign (dlt rfl rfl) rfl rfl) (.nil ?_)))
  refine ak_seq ?_
  refine ak_seq ?_
  refine ak_regionS (.cons rfl (ok_fieldV (dlt rfl rfl) rfl fo49_0 ty3 (by decide) rfl) (.cons rfl (ok_loadV (dlt rfl rfl) rfl ty3 rfl rfl rfl) (.cons rfl (ok_lss (dlt rfl rfl) rfl rfl rfl) (.cons rfl (ok_move (dlt rfl rfl) rfl rfl) (.consG (pre := []) (dlt rfl rfl) rfl rfl rfl rfl .nil (fun he => ok_fieldV (dlt rfl rfl) rfl fo49_0 ty3 (by decide) rfl) (.consG (pre := [(7, .ref 1 0)]) (dlt rfl rfl) rfl rfl rfl rfl (.cons rfl (fun he => he) .nil) (fun he => ok_loadV (dlt rfl rfl) rfl ty3 rfl rfl rfl) (.consG (pre := [(8, .int .i64 a0.kind)]) (dlt rfl rfl) rfl rfl rfl rfl (.cons rfl (fun he => he) .nil) (fun he => ok_gtr (dlt rfl rfl) rfl rfl rfl) (.cons rfl (ok_orW (dlt rfl rfl) rfl rfl rfl (fun h => (bnot_t h))) (.nil ?_)))))))))
  refine ak_cond rfl (fun ht => ?_) (fun ht => ?_)
  ·have h := cond_t ht h
   refine ak_seq ?_
   refine ak_regionS (.cons rfl (ok_assign (dlt rfl rfl) rfl rfl) (.nil ?_))
   obtain rfl := Option.some.inj h
   refine ak_conv (Γ' := [(2, .bool false)]) (σ' := []) (.cons rfl (.refl _) (.nil _)) (.nil _) ?_
   exact ak_ret (fn := Tryz.f113) Tryz.func113 rfl trivial rfl
  ·have h := cond_f ht h
   refine ak_skip ?_
   refine ak_seq ?_
   refine ak_seq ?_
   refine ak_regionS (.cons rfl (ok_fieldV (dlt rfl rfl) rfl fo49_0 ty3 (by decide) rfl) (.cons rfl (ok_loadV (dlt rfl rfl) rfl ty3 rfl rfl rfl) (.cons rfl (ok_neq (dlt rfl rfl) rfl rfl rfl) (.cons rfl (ok_move (dlt rfl rfl) rfl rfl) (.consG (pre := []) (dlt rfl rfl) rfl rfl rfl rfl .nil (fun he => ok_fieldV (dlt rfl rfl) rfl fo49_1 ty9 (by decide) rfl) (.consG (pre := [(15, .ref 1 1)]) (dlt rfl rfl) rfl rfl rfl rfl (.cons rfl (fun he => he) .nil) (fun he => ok_loadV (dlt rfl rfl) rfl ty9 rfl rfl rfl) (.consG (pre := [(16, .str a0.name)]) (dlt rfl rfl) rfl rfl rfl rfl (.cons rfl (fun he => he) .nil) (fun he => ok_neqS (dlt rfl rfl) rfl rfl rfl) (.cons rfl (ok_andW (dlt rfl rfl) rfl rfl rfl (fun h => h)) (.cons rfl (ok_move (dlt rfl rfl) rfl rfl) (.consG (pre := []) (dlt rfl rfl) rfl rfl rfl rfl .nil (fun he => ok_fieldV (dlt rfl rfl) rfl fo49_0 ty3 (by decide) rfl) (.consG (pre := [(20, .ref 1 0)]) (dlt rfl rfl) rfl rfl rfl rfl (.cons rfl (fun he => he) .nil) (fun he => ok_loadV (dlt rfl rfl) rfl ty3 rfl rfl rfl) (.consG (pre := [(21, .int .i64 a0.kind)]) (dlt rfl rfl) rfl rfl rfl rfl (.cons rfl (fun he => he) .nil) (fun he => ok_neq (dlt rfl rfl) rfl rfl rfl) (.consG (pre := [(22, .bool (a0.kind != (2 : Int)))]) (dlt rfl rfl) rfl rfl rfl rfl (.cons rfl (fun he => he) .nil) (fun he => ok_move (dlt rfl rfl) rfl rfl) (.consG (pre := []) (dlt rfl rfl) rfl rfl rfl rfl .nil (fun he => ok_fieldV (dlt rfl rfl) rfl fo49_2 ty3 (by decide) rfl) (.consG (pre := [(24, .ref 1 2)]) (dlt rfl rfl) rfl rfl rfl rfl (.cons rfl (fun he => he) .nil) (fun he => ok_loadV (dlt rfl rfl) rfl ty3 rfl rfl rfl) (.consG (pre := [(25, .int .i64 a0.index)]) (dlt rfl rfl) rfl rfl rfl rfl (.cons rfl (fun he => he) .nil) (fun he => ok_neq (dlt rfl rfl) rfl rfl rfl) (.consG (pre := [(23, .bool (a0.kind != (2 : Int)))]) (dlt rfl rfl) rfl rfl rfl rfl (.cons rfl (fun he => he) .nil) (fun he => ok_andW (dlt rfl rfl) rfl rfl rfl (fun h => band_i he h)) (.cons rfl (ok_orW (dlt rfl rfl) rfl rfl rfl (fun h => (bnot_t h))) (.nil ?_)))))))))))))))))))
   refine ak_cond rfl (fun ht => ?_) (fun ht => ?_)
   ·have h := cond_t ht h
    refine ak_seq ?_
    refine ak_regionS (.cons rfl (ok_assign (dlt rfl rfl) rfl rfl) (.nil ?_))
    obtain rfl := Option.some.inj h
    refine ak_conv (Γ' := [(2, .bool false)]) (σ' := []) (.cons rfl (.refl _) (.nil _)) (.nil _) ?_
    exact ak_ret (fn := Tryz.f113) Tryz.func113 rfl trivial rfl
   ·have h := cond_f ht h
    refine ak_skip ?_
    refine ak_seq ?_
    refine ak_seq ?_
    refine ak_regionS (.cons rfl (ok_fieldV (dlt rfl rfl) rfl fo49_0 ty3 (by decide) rfl) (.cons rfl (ok_loadV (dlt rfl rfl) rfl ty3 rfl rfl rfl) (.cons rfl (ok_neq (dlt rfl rfl) rfl rfl rfl) (.cons rfl (ok_move (dlt rfl rfl) rfl rfl) (.consG (pre := []) (dlt rfl rfl) rfl rfl rfl rfl .nil (fun he => ok_fieldV (dlt rfl rfl) rfl fo49_3 ty3 (by decide) rfl) (.consG (pre := [(33, .ref 1 3)]) (dlt rfl rfl) rfl rfl rfl rfl (.cons rfl (fun he => he) .nil) (fun he => ok_loadV (dlt rfl rfl) rfl ty3 rfl rfl rfl) (.consG (pre := [(34, .int .i64 a0.start)]) (dlt rfl rfl) rfl rfl rfl rfl (.cons rfl (fun he => he) .nil) (fun he => ok_neq (dlt rfl rfl) rfl rfl rfl) (.consG (pre := [(35, .bool (a0.start != (0 : Int)))]) (dlt rfl rfl) rfl rfl rfl rfl (.cons rfl (fun he => he) .nil) (fun he => ok_move (dlt rfl rfl) rfl rfl) (.consG (pre := []) (dlt rfl rfl) rfl rfl rfl rfl .nil (fun he => ok_fieldV (dlt rfl rfl) rfl fo49_4 ty3 (by decide) rfl) (.consG (pre := [(37, .ref 1 4)]) (dlt rfl rfl) rfl rfl rfl rfl (.cons rfl (fun he => he) .nil) (fun he => ok_loadV (dlt rfl rfl) rfl ty3 rfl rfl rfl) (.consG (pre := [(38, .int .i64 a0.stop)]) (dlt rfl rfl) rfl rfl rfl rfl (.cons rfl (fun he => he) .nil) (fun he => ok_neq (dlt rfl rfl) rfl rfl rfl) (.consG (pre := [(36, .bool (a0.start != (0 : Int)))]) (dlt rfl rfl) rfl rfl rfl rfl (.cons rfl (fun he => he) .nil) (fun he => ok_orW (dlt rfl rfl) rfl rfl rfl (fun h => band_i he (bnot_t h))) (.consG (pre := [(40, .bool ((a0.start != (0 : Int)) || (a0.stop != (0 : Int))))]) (dlt rfl rfl) rfl rfl rfl rfl (.cons rfl (fun he => he) .nil) (fun he => ok_move (dlt rfl rfl) rfl rfl) (.consG (pre := []) (dlt rfl rfl) rfl rfl rfl rfl .nil (fun he => ok_fieldV (dlt rfl rfl) rfl fo49_7 ty3 (by decide) rfl) (.consG (pre := [(42, .ref 1 7)]) (dlt rfl rfl) rfl rfl rfl rfl (.cons rfl (fun he => he) .nil) (fun he => ok_loadV (dlt rfl rfl) rfl ty3 rfl rfl rfl) (.consG (pre := [(43, .int .i64 a0.stride)]) (dlt rfl rfl) rfl rfl rfl rfl (.cons rfl (fun he => he) .nil) (fun he => ok_neq (dlt rfl rfl) rfl rfl rfl) (.consG (pre := [(41, .bool ((a0.start != (0 : Int)) || (a0.stop != (0 : Int))))]) (dlt rfl rfl) rfl rfl rfl rfl (.cons rfl (fun he => he) .nil) (fun he => ok_orW (dlt rfl rfl) rfl rfl rfl (fun h => band_i he (bnot_t h))) (.consG (pre := [(45, .bool (((a0.start != (0 : Int)) || (a0.stop != (0 : Int))) || (a0.stride != (0 : Int))))]) (dlt rfl rfl) rfl rfl rfl rfl (.cons rfl (fun he => he) .nil) (fun he => ok_move (dlt rfl rfl) rfl rfl) (.consG (pre := []) (dlt rfl rfl) rfl rfl rfl rfl .nil (fun he => ok_fieldV (dlt rfl rfl) rfl fo49_5 ty4 (by decide) rfl) (.consG (pre := [(47, .ref 1 5)]) (dlt rfl rfl) rfl rfl rfl rfl (.cons rfl (fun he => he) .nil) (fun he => ok_loadV (dlt rfl rfl) rfl ty4 rfl rfl rfl) (.consG (pre := [(46, .bool (((a0.start != (0 : Int)) || (a0.stop != (0 : Int))) || (a0.stride != (0 : Int))))]) (dlt rfl rfl) rfl rfl rfl rfl (.cons rfl (fun he => he) .nil) (fun he => ok_orW (dlt rfl rfl) rfl rfl rfl (fun h => band_i he (bnot_t h))) (.consG (pre := [(49, .bool ((((a0.start != (0 : Int)) || (a0.stop != (0 : Int))) || (a0.stride != (0 : Int))) || a0.hasStart))]) (dlt rfl rfl) rfl rfl rfl rfl (.cons rfl (fun he => he) .nil) (fun he => ok_move (dlt rfl rfl) rfl rfl) (.consG (pre := []) (dlt rfl rfl) rfl rfl rfl rfl .nil (fun he => ok_fieldV (dlt rfl rfl) rfl fo49_6 ty4 (by decide) rfl) (.consG (pre := [(51, .ref 1 6)]) (dlt rfl rfl) rfl rfl rfl rfl (.cons rfl (fun he => he) .nil) (fun he => ok_loadV (dlt rfl rfl) rfl ty4 rfl rfl rfl) (.consG (pre := [(50, .bool ((((a0.start != (0 : Int)) || (a0.stop != (0 : Int))) || (a0.stride != (0 : Int))) || a0.hasStart))]) (dlt rfl rfl) rfl rfl rfl rfl (.cons rfl (fun he => he) .nil) (fun he => ok_orW (dlt rfl rfl) rfl rfl rfl (fun h => band_i he (bnot_t h))) (.cons rfl (ok_andW (dlt rfl rfl) rfl rfl rfl (fun h => h)) (.nil ?_)))))))))))))))))))))))))))
    refine ak_cond rfl (fun ht => ?_) (fun ht => ?_)
    ·have h := cond_t ht h
     refine ak_seq ?_
     refine ak_regionS (.cons rfl (ok_assign (dlt rfl rfl) rfl rfl) (.nil ?_))
     obtain rfl := Option.some.inj h
     refine ak_conv (Γ' := [(2, .bool false)]) (σ' := []) (.cons rfl (.refl _) (.nil _)) (.nil _) ?_
     exact ak_ret (fn := Tryz.f113) Tryz.func113 rfl trivial rfl
    ·have h := cond_f ht h
     refine ak_skip ?_
     refine ak_seq ?_
     refine ak_seq ?_
     refine ak_regionS (.cons rfl (ok_fieldV (dlt rfl rfl) rfl fo49_5 ty4 (by decide) rfl) (.cons rfl (ok_loadV (dlt rfl rfl) rfl ty4 rfl rfl rfl) (.cons rfl (ok_not (dlt rfl rfl) rfl rfl) (.cons rfl (ok_move (dlt rfl rfl) rfl rfl) (.consG (pre := []) (dlt rfl rfl) rfl rfl rfl rfl .nil (fun he => ok_fieldV (dlt rfl rfl) rfl fo49_3 ty3 (by decide) rfl) (.consG (pre := [(59, .ref 1 3)]) (dlt rfl rfl) rfl rfl rfl rfl (.cons rfl (fun he => he) .nil) (fun he => ok_loadV (dlt rfl rfl) rfl ty3 rfl rfl rfl) (.consG (pre := [(60, .int .i64 a0.start)]) (dlt rfl rfl) rfl rfl rfl rfl (.cons rfl (fun he => he) .nil) (fun he => ok_neq (dlt rfl rfl) rfl rfl rfl) (.cons rfl (ok_andW (dlt rfl rfl) rfl rfl rfl (fun h => h)) (.cons rfl (ok_move (dlt rfl rfl) rfl rfl) (.consG (pre := []) (dlt rfl rfl) rfl rfl rfl rfl .nil (fun he => ok_fieldV (dlt rfl rfl) rfl fo49_6 ty4 (by decide) rfl) (.consG (pre := [(64, .ref 1 6)]) (dlt rfl rfl) rfl rfl rfl rfl (.cons rfl (fun he => he) .nil) (fun he => ok_loadV (dlt rfl rfl) rfl ty4 rfl rfl rfl) (.consG (pre := [(65, .bool a0.hasEnd)]) (dlt rfl rfl) rfl rfl rfl rfl (.cons rfl (fun he => he) .nil) (fun he => ok_not (dlt rfl rfl) rfl rfl) (.consG (pre := [(66, .bool (!a0.hasEnd))]) (dlt rfl rfl) rfl rfl rfl rfl (.cons rfl (fun he => he) .nil) (fun he => ok_move (dlt rfl rfl) rfl rfl) (.consG (pre := []) (dlt rfl rfl) rfl rfl rfl rfl .nil (fun he => ok_fieldV (dlt rfl rfl) rfl fo49_4 ty3 (by decide) rfl) (.consG (pre := [(68, .ref 1 4)]) (dlt rfl rfl) rfl rfl rfl rfl (.cons rfl (fun he => he) .nil) (fun he => ok_loadV (dlt rfl rfl) rfl ty3 rfl rfl rfl) (.consG (pre := [(69, .int .i64 a0.stop)]) (dlt rfl rfl) rfl rfl rfl rfl (.cons rfl (fun he => he) .nil) (fun he => ok_neq (dlt rfl rfl) rfl rfl rfl) (.consG (pre := [(67, .bool (!a0.hasEnd))]) (dlt rfl rfl) rfl rfl rfl rfl (.cons rfl (fun he => he) .nil) (fun he => ok_andW (dlt rfl rfl) rfl rfl rfl (fun h => band_i he h)) (.cons rfl (ok_orW (dlt rfl rfl) rfl rfl rfl (fun h => (bnot_t h))) (.nil ?_)))))))))))))))))))
     refine ak_cond rfl (fun ht => ?_) (fun ht => ?_)
     ·have h := cond_t ht h
      refine ak_seq ?_
      refine ak_regionS (.cons rfl (ok_assign (dlt rfl rfl) rfl rfl) (.nil ?_))
      obtain rfl := Option.some.inj h
      refine ak_conv (Γ' := [(2, .bool false)]) (σ' := []) (.cons rfl (.refl _) (.nil _)) (.nil _) ?_
      exact ak_ret (fn := Tryz.f113) Tryz.func113 rfl trivial rfl
     ·have h := cond_f ht h
      refine ak_skip ?_
      refine ak_seq ?_
      obtain ⟨v1, hv1, h⟩ := bind_of h
      obtain ⟨v2, hv2, h⟩ := bind_of h
      obtain ⟨v3, hv3, h⟩ := bind_of h
      obtain ⟨v4, hv4, h⟩ := bind_of h
      obtain ⟨v5, hv5, h⟩ := bind_of h
      refine ak_regionS (.cons rfl (ok_fieldV (dlt rfl rfl) rfl fo49_2 ty3 (by decide) rfl) (.cons rfl (ok_loadV (dlt rfl rfl) rfl ty3 rfl rfl rfl) (.cons rfl (ok_call (xs := [.int .i64 a0.index]) (caps := []) (dlt rfl rfl) rfl rfl Tryz.func168 rfl rfl rfl (d168 hv1) rfl) (.cons rfl (ok_move (dlt rfl rfl) rfl rfl) (.consG (pre := []) (dlt rfl rfl) rfl rfl rfl rfl .nil (fun he => ok_fieldV (dlt rfl rfl) rfl fo49_3 ty3 (by decide) rfl) (.consG (pre := [(77, .ref 1 3)]) (dlt rfl rfl) rfl rfl rfl rfl (.cons rfl (fun he => he) .nil) (fun he => ok_loadV (dlt rfl rfl) rfl ty3 rfl rfl rfl) (.consG (pre := [(78, .int .i64 a0.start)]) (dlt rfl rfl) rfl rfl rfl rfl (.cons rfl (fun he => he) .nil) (fun he => ok_call (xs := [.int .i64 a0.start]) (caps := []) (dlt rfl rfl) rfl rfl Tryz.func168 rfl rfl rfl (d168 (gd_t hv2 he)) rfl) (.cons rfl (ok_andW (dlt rfl rfl) rfl rfl rfl (fun h => h)) (.cons rfl (ok_move (dlt rfl rfl) rfl rfl) (.consG (pre := []) (dlt rfl rfl) rfl rfl rfl rfl .nil (fun he => ok_fieldV (dlt rfl rfl) rfl fo49_4 ty3 (by decide) rfl) (.consG (pre := [(82, .ref 1 4)]) (dlt rfl rfl) rfl rfl rfl rfl (.cons rfl (fun he => he) .nil) (fun he => ok_loadV (dlt rfl rfl) rfl ty3 rfl rfl rfl) (.consG (pre := [(83, .int .i64 a0.stop)]) (dlt rfl rfl) rfl rfl rfl rfl (.cons rfl (fun he => he) .nil) (fun he => ok_call (xs := [.int .i64 a0.stop]) (caps := []) (dlt rfl rfl) rfl rfl Tryz.func168 rfl rfl rfl (d168 (gd_t hv3 he)) rfl) (.cons rfl (ok_andW (dlt rfl rfl) rfl rfl rfl (fun h => h)) (.cons rfl (ok_move (dlt rfl rfl) rfl rfl) (.consG (pre := []) (dlt rfl rfl) rfl rfl rfl rfl .nil (fun he => ok_fieldV (dlt rfl rfl) rfl fo49_7 ty3 (by decide) rfl) (.consG (pre := [(87, .ref 1 7)]) (dlt rfl rfl) rfl rfl rfl rfl (.cons rfl (fun he => he) .nil) (fun he => ok_loadV (dlt rfl rfl) rfl ty3 rfl rfl rfl) (.consG (pre := [(88, .int .i64 a0.stride)]) (dlt rfl rfl) rfl rfl rfl rfl (.cons rfl (fun he => he) .nil) (fun he => ok_call (xs := [.int .i64 a0.stride]) (caps := []) (dlt rfl rfl) rfl rfl Tryz.func168 rfl rfl rfl (d168 (gd_t hv4 he)) rfl) (.cons rfl (ok_andW (dlt rfl rfl) rfl rfl rfl (fun h => h)) (.cons rfl (ok_move (dlt rfl rfl) rfl rfl) (.consG (pre := []) (dlt rfl rfl) rfl rfl rfl rfl .nil (fun he => ok_fieldV (dlt rfl rfl) rfl fo49_1 ty9 (by decide) rfl) (.consG (pre := [(92, .ref 1 1)]) (dlt rfl rfl) rfl rfl rfl rfl (.cons rfl (fun he => he) .nil) (fun he => ok_loadV (dlt rfl rfl) rfl ty9 rfl rfl rfl) (.consG (pre := [(93, .str a0.name)]) (dlt rfl rfl) rfl rfl rfl rfl (.cons rfl (fun he => he) .nil) (fun he => ok_call (xs := [.str a0.name]) (caps := []) (dlt rfl rfl) rfl rfl Tryz.func124 rfl rfl rfl (d124 (gd_t hv5 he)) rfl) (.consG (pre := [(94, .int .i64 v5)]) (dlt rfl rfl) rfl rfl rfl rfl (.cons rfl (fun he => he) .nil) (fun he => ok_eql (dlt rfl rfl) rfl rfl rfl) (.cons rfl (ok_andW (dlt rfl rfl) rfl rfl rfl (fun h => h)) (.cons rfl (ok_assign (dlt rfl rfl) rfl rfl) (.nil ?_))))))))))))))))))))))))))
      obtain rfl := Option.some.inj h
      refine ak_conv (Γ' := [(2, .bool ((((v1 && v2) && v3) && v4) && (v5 == (-1))))]) (σ' := []) (.cons rfl (.refl _) (.nil _)) (.nil _) ?_
      exact ak_ret (fn := Tryz.f113) Tryz.func113 rfl trivial rfl)
theorem d113 {a0 : ApiSelector} {r : Bool} (h : f113 (.e113 a0) = some r) : Does Tryz.prog GG 113 [.agg [.int .i64 a0.kind, .str a0.name, .int .i64 a0.index, .int .i64 a0.start, .int .i64 a0.stop, .bool a0.hasStart, .bool a0.hasEnd, .int .i64 a0.stride]] [] (fun z _ => z = .bool r) := fn_of (fn := Tryz.f113) Tryz.func113 rfl Tryz.ntmps113 rfl (w113 _ _ h)
end Go.Proofs.YtonlbdholdaifaaGreatDoor
end
section
set_option linter.unusedVariables false
set_option linter.unusedSimpArgs false
set_option maxRecDepth 10000
namespace Go.Proofs.YtonlbdholdaifaaGreatDoor
open Go Go.Rf Go.Proofs
/-- riffle/riffleref15.Right -/
noncomputable abbrev b58 : Code := codeOf Tryz.f58
inductive L58 where
 | e58 (a0 : List ApiSegment)
 | l58_0 (a0 : List ApiSegment) (a1 : Int) (a2 : Int)
 | l58_1 (a0 : List ApiSegment) (a1 : Int) (a2 : Int) (a3 : List ApiSelector) (a4 : Int) (a5 : Int)
noncomputable def f58 : L58 → Option Bool
 | .e58 a0 =>
  f58 (.l58_0 a0 (a0.length : Int) (0 : Int))
 | .l58_0 a0 a1 a2 =>
  if (decide (a2 < a1)) = true then
   idx a0 a2 >>= fun v1 =>
   if ((v1.selectors.length : Int) == (0 : Int)) = true then
    some false
   else
    f58 (.l58_1 a0 a1 a2 v1.selectors (v1.selectors.length : Int) (0 : Int))
  else
   some true
 | .l58_1 a0 a1 a2 a3 a4 a5 =>
  if (decide (a5 < a4)) = true then
   idx a3 a5 >>= fun v2 =>
   f113 (.e113 v2) >>= fun v3 =>
   if (!v3) = true then
    some false
   else
    f58 (.l58_1 a0 a1 a2 a3 a4 (IntKind.wrap .i64 (a5 + (1 : Int))))
  else
   f58 (.l58_0 a0 a1 (IntKind.wrap .i64 (a2 + (1 : Int))))
 partial_fixpoint
def M58 : L58 → Bool → Prop
 | .e58 a0, r => ∀ (w : World) (F : Nat → Prop) (ρ : Rho), AK Tryz.prog (ctx GG 29 w F ρ []) 58 [.code b58] (argE 0 [.sl Ty.sApiSegment a0]) [] (fun z _ => z = .bool r)
 | .l58_0 a0 a1 a2, r => ∀ (w : World) (F : Nat → Prop) (ρ : Rho), AK Tryz.prog (ctx GG 29 w F ρ []) 58 [.code (c1 (c1 (c2 (c1 (c2 b58))))), .inLoop (c1 (c1 (c2 (c1 (c2 b58))))), .inBlock 0, .code (c2 (c2 b58))] [(7, .sl Ty.sApiSegment a0), (8, .int .i64 a1), (9, .int .i64 a2)] [] (fun z _ => z = .bool r)
 | .l58_1 a0 a1 a2 a3 a4 a5, r => ∀ (w : World) (F : Nat → Prop) (ρ : Rho), AK Tryz.prog (ctx GG 29 w F ρ []) 58 [.code (c1 (c1 (c2 (c2 (c2 (c1 (c1 (c2 (c2 (c1 (c1 (c2 (c1 (c2 b58)))))))))))))), .inLoop (c1 (c1 (c2 (c2 (c2 (c1 (c1 (c2 (c2 (c1 (c1 (c2 (c1 (c2 b58)))))))))))))), .inBlock 2, .inBlock 1, .code (c2 (c2 (c2 (c1 (c1 (c2 (c1 (c2 b58)))))))), .inLoop (c1 (c1 (c2 (c1 (c2 b58))))), .inBlock 0, .code (c2 (c2 b58))] [(7, .sl Ty.sApiSegment a0), (8, .int .i64 a1), (9, .int .i64 a2), (18, .sl Ty.sApiSelector a3), (19, .int .i64 a4), (20, .int .i64 a5)] [] (fun z _ => z = .bool r)
theorem w58 : ∀ (l : L58) (r : Bool), f58 l = some r → M58 l r := f58.partial_correctness M58 (by
 intro f ih l r h
 cases l with
 | e58 a0 =>
  intro w F ρ
  dsimp only at h
  refine ak_seq ?_
  refine ak_regionS (.cons rfl (ok_assign (dlt rfl rfl) rfl rfl) (.nil ?_))
  refine ak_seq ?_
  refine ak_seq ?_
  refine ak_regionS (.cons rfl (ok_move (dlt rfl rfl) rfl rfl) (.cons rfl (ok_lenS (τ := Ty.sApiSegment) (xs := a0) (dlt rfl rfl) rfl Tryz.underlying24 rfl) (.cons rfl (ok_move (dlt rfl rfl) rfl rfl) (.nil ?_))))
  refine ak_block ?_
  refine ak_loop ?_
  exact ak_conv (.cons rfl (.refl _) (.cons rfl (.refl _) (.cons rfl (.refl _) (.nil _)))) (.nil _) (ih _ _ h w F ρ)
 | l58_0 a0 a1 a2 =>
  intro w F ρ
  dsimp only at h
  refine ak_seq ?_
  refine ak_regionS (.cons rfl (ok_lss (dlt rfl rfl) rfl rfl rfl) (.nil ?_))
  refine ak_seq ?_
  refine ak_cond rfl (fun ht => ?_) (fun ht => ?_)
  ·have h := cond_t ht h
   refine ak_skip ?_
   refine ak_seq ?_
   refine ak_block ?_
   refine ak_seq ?_
   obtain ⟨v1, hv1, h⟩ := bind_of h
   refine ak_regionS (.cons rfl (ok_indexS (τ := Ty.sApiSegment) (x := v1) (dlt rfl rfl) rfl Tryz.underlying24 ty47 rfl rfl rfl (idx_0 hv1) (idx_1 hv1)) (.cons rfl (ok_loadRT (dlt rfl rfl) rfl ty47 rfl (by decide) rfl) (.cons rfl (ok_alloc (d := 4) (dlt rfl rfl) rfl ty47 rfl rfl rfl) (.cons rfl (ok_storeV rfl rfl ty47 rfl rfl rfl rfl (by decide) rfl rfl) (.nil ?_)))))
   refine ak_seq ?_
   refine ak_seq ?_
   refine ak_regionS (.cons rfl (ok_fieldV (dlt rfl rfl) rfl fo47_1 ty45 (by decide) rfl) (.cons rfl (ok_loadV (dlt rfl rfl) rfl ty45 rfl rfl rfl) (.cons rfl (ok_lenS (τ := Ty.sApiSelector) (xs := v1.selectors) (dlt rfl rfl) rfl Tryz.underlying45 rfl) (.cons rfl (ok_eql (dlt rfl rfl) rfl rfl rfl) (.nil ?_)))))
   refine ak_cond rfl (fun ht => ?_) (fun ht => ?_)
   ·have h := cond_t ht h
    refine ak_seq ?_
    refine ak_regionS (.cons rfl (ok_assign (dlt rfl rfl) rfl rfl) (.nil ?_))
    obtain rfl := Option.some.inj h
    refine ak_conv (Γ' := [(2, .bool false)]) (σ' := []) (.cons rfl (.refl _) (.nil _)) (.nil _) ?_
    exact ak_ret (fn := Tryz.f58) Tryz.func58 rfl trivial rfl
   ·have h := cond_f ht h
    refine ak_skip ?_
    refine ak_seq ?_
    refine ak_regionS (.cons rfl (ok_fieldV (dlt rfl rfl) rfl fo47_1 ty45 (by decide) rfl) (.cons rfl (ok_loadV (dlt rfl rfl) rfl ty45 rfl rfl rfl) (.cons rfl (ok_lenS (τ := Ty.sApiSelector) (xs := v1.selectors) (dlt rfl rfl) rfl Tryz.underlying45 rfl) (.cons rfl (ok_move (dlt rfl rfl) rfl rfl) (.nil ?_)))))
    refine ak_block ?_
    refine ak_loop ?_
    exact ak_conv (.cons rfl (.refl _) (.cons rfl (.refl _) (.cons rfl (.refl _) (.cons rfl (.refl _) (.cons rfl (.refl _) (.cons rfl (.refl _) (.nil _))))))) (.nil _) (ih _ _ h w F ρ)
  ·have h := cond_f ht h
   refine ak_exit rfl ?_
   refine ak_seq ?_
   refine ak_regionS (.cons rfl (ok_assign (dlt rfl rfl) rfl rfl) (.nil ?_))
   obtain rfl := Option.some.inj h
   refine ak_conv (Γ' := [(2, .bool true)]) (σ' := []) (.cons rfl (.refl _) (.nil _)) (.nil _) ?_
   exact ak_ret (fn := Tryz.f58) Tryz.func58 rfl trivial rfl
 | l58_1 a0 a1 a2 a3 a4 a5 =>
  intro w F ρ
  dsimp only at h
  refine ak_seq ?_
  refine ak_regionS (.cons rfl (ok_lss (dlt rfl rfl) rfl rfl rfl) (.nil ?_))
  refine ak_seq ?_
  refine ak_cond rfl (fun ht => ?_) (fun ht => ?_)
  ·have h := cond_t ht h
   refine ak_skip ?_
   refine ak_seq ?_
   refine ak_block ?_
   refine ak_seq ?_
   obtain ⟨v2, hv2, h⟩ := bind_of h
   refine ak_regionS (.cons rfl (ok_indexS (τ := Ty.sApiSelector) (x := v2) (dlt rfl rfl) rfl Tryz.underlying45 ty49 rfl rfl rfl (idx_0 hv2) (idx_1 hv2)) (.cons rfl (ok_loadRT (dlt rfl rfl) rfl ty49 rfl (by decide) rfl) (.cons rfl (ok_alloc (d := 6) (dlt rfl rfl) rfl ty49 rfl rfl rfl) (.cons rfl (ok_storeV rfl rfl ty49 rfl rfl rfl rfl (by decide) rfl rfl) (.nil ?_)))))
   refine ak_seq ?_
   obtain ⟨v3, hv3, h⟩ := bind_of h
   refine ak_regionS (.cons rfl (ok_loadVT (dlt rfl rfl) rfl ty49 rfl rfl (by decide) rfl) (.cons rfl (ok_call (xs := [.agg [.int .i64 v2.kind, .str v2.name, .int .i64 v2.index, .int .i64 v2.start, .int .i64 v2.stop, .bool v2.hasStart, .bool v2.hasEnd, .int .i64 v2.stride]]) (caps := []) (dlt rfl rfl) rfl rfl Tryz.func113 rfl rfl rfl (d113 hv3) rfl) (.cons rfl (ok_not (dlt rfl rfl) rfl rfl) (.nil ?_))))
   refine ak_cond rfl (fun ht => ?_) (fun ht => ?_)
   ·have h := cond_t ht h
    refine ak_seq ?_
    refine ak_regionS (.cons rfl (ok_assign (dlt rfl rfl) rfl rfl) (.nil ?_))
    obtain rfl := Option.some.inj h
    refine ak_conv (Γ' := [(2, .bool false)]) (σ' := []) (.cons rfl (.refl _) (.nil _)) (.nil _) ?_
    exact ak_ret (fn := Tryz.f58) Tryz.func58 rfl trivial rfl
   ·have h := cond_f ht h
    refine ak_skip ?_
    refine ak_inBlock ?_
    refine ak_regionS (.cons rfl (ok_add (dlt rfl rfl) rfl rfl rfl) (.cons rfl (ok_move (dlt rfl rfl) rfl rfl) (.nil ?_)))
    refine ak_inLoop ?_
    exact ak_conv (.cons rfl (.refl _) (.cons rfl (.refl _) (.cons rfl (.refl _) (.cons rfl (.refl _) (.cons rfl (.refl _) (.cons rfl (.refl _) (.nil _))))))) (.nil _) (ih _ _ h w F ρ)
  ·have h := cond_f ht h
   refine ak_exit rfl ?_
   refine ak_inBlock ?_
   refine ak_regionS (.cons rfl (ok_add (dlt rfl rfl) rfl rfl rfl) (.cons rfl (ok_move (dlt rfl rfl) rfl rfl) (.nil ?_)))
   refine ak_inLoop ?_
   exact ak_conv (.cons rfl (.refl _) (.cons rfl (.refl _) (.cons rfl (.refl _) (.nil _)))) (.nil _) (ih _ _ h w F ρ))
theorem d58 {a0 : List ApiSegment} {r : Bool} (h : f58 (.e58 a0) = some r) : Does Tryz.prog GG 58 [.sl Ty.sApiSegment a0] [] (fun z _ => z = .bool r) := fn_of (fn := Tryz.f58) Tryz.func58 rfl Tryz.ntmps58 rfl (w58 _ _ h)
/-- riffle/rifflelaw16.Given -/
noncomputable abbrev b15 : Code := codeOf Tryz.f15
inductive L15 where
 | e15 (a0 : List UInt8) (a1 : List ApiSegment)
 | l15_0 (a0 : List UInt8) (a1 : List ApiSegment) (a2 : Int) (a3 : Int) (a4 : Int) (a5 : Int) (a6 : Int) (a7 : List UInt8)
noncomputable def f15 : L15 → Option (ApiValue × Bool)
 | .e15 a0 a1 =>
  gd (!((decide ((400 : Int) < (a0.length : Int))) || (decide ((8 : Int) < (a1.length : Int))))) (f58 (.e58 a1)) >>= fun v1 =>
  if (((decide ((400 : Int) < (a0.length : Int))) || (decide ((8 : Int) < (a1.length : Int)))) || (!v1)) = true then
   some ((⟨0, 0, 0, [], ([] : List ApiValue), ([] : List (List UInt8))⟩ : ApiValue), false)
  else
   f15 (.l15_0 a0 a1 (a1.length : Int) (0 : Int) (0 : Int) (0 : Int) (0 : Int) [])
 | .l15_0 a0 a1 a2 a3 a4 a5 a6 a7 =>
  if (decide (a3 < a2)) = true then
   idx a1 a3 >>= fun v2 =>
   if (decide ((8 : Int) < (v2.selectors.length : Int))) = true then
    some ((⟨0, 0, 0, [], ([] : List ApiValue), ([] : List (List UInt8))⟩ : ApiValue), false)
   else
    f15 (.l15_0 a0 a1 a2 (IntKind.wrap .i64 (a3 + (1 : Int))) a4 a5 a6 a7)
  else
   f57 (.e57 a0 (40 : Int)) >>= fun v3 =>
   some (v3.1, (v3.2.kind == (1 : Int)))
 partial_fixpoint
def M15 : L15 → (ApiValue × Bool) → Prop
 | .e15 a0 a1, r => ∀ (w : World) (F : Nat → Prop) (ρ : Rho), AK Tryz.prog (ctx GG 46 w F ρ []) 15 [.code b15] (argE 0 [.sl Ty.u8 a0, .sl Ty.sApiSegment a1]) [] (fun z _ => z = .tup [.agg [.int .i64 r.1.kind, .int .i64 r.1.frm, .int .i64 r.1.to, .str r.1.text, .sl Ty.sApiValue r.1.items, .sl Ty.str r.1.names], .bool r.2])
 | .l15_0 a0 a1 a2 a3 a4 a5 a6 a7, r => ∀ (w : World) (F : Nat → Prop) (ρ : Rho), AK Tryz.prog (ctx GG 46 w F ρ []) 15 [.code (c1 (c1 (c2 (c1 (c2 (c2 b15)))))), .inLoop (c1 (c1 (c2 (c1 (c2 (c2 b15)))))), .inBlock 0, .code (c2 (c2 (c2 b15)))] [(0, .sl Ty.u8 a0), (4, .ref 4 0), (24, .sl Ty.sApiSegment a1), (25, .int .i64 a2), (26, .int .i64 a3)] [(4, .cells 29 [.int .i64 a4, .int .i64 a5, .int .i64 a6, .str a7, .nils, .nils])] (fun z _ => z = .tup [.agg [.int .i64 r.1.kind, .int .i64 r.1.frm, .int .i64 r.1.to, .str r.1.text, .sl Ty.sApiValue r.1.items, .sl Ty.str r.1.names], .bool r.2])
theorem w15 : ∀ (l : L15) (r : ApiValue × Bool), f15 l = some r → M15 l r := f15.partial_correctness M15 (by
 intro f ih l r h
 cases l with
 | e15 a0 a1 =>
  intro w F ρ
  dsimp only at h
  refine ak_seq ?_
  refine ak_regionS (.cons rfl (ok_alloc (d := 4) (dlt rfl rfl) rfl ty29 rfl rfl rfl) (.cons rfl (ok_assign (dlt rfl rfl) rfl rfl) (.nil ?_)))
  refine ak_seq ?_
  refine ak_seq ?_
  obtain ⟨v1, hv1, h⟩ := bind_of h
  refine ak_regionS (.cons rfl (ok_move (dlt rfl rfl) rfl rfl) (.cons rfl (ok_lenS (τ := Ty.u8) (xs := a0) (dlt rfl rfl) rfl Tryz.underlying22 rfl) (.cons rfl (ok_gtr (dlt rfl rfl) rfl rfl rfl) (.cons rfl (ok_move (dlt rfl rfl) rfl rfl) (.consG (pre := []) (dlt rfl rfl) rfl rfl rfl rfl .nil (fun he => ok_move (dlt rfl rfl) rfl rfl) (.consG (pre := [(14, .sl Ty.sApiSegment a1)]) (dlt rfl rfl) rfl rfl rfl rfl (.cons rfl (fun he => he) .nil) (fun he => ok_lenS (τ := Ty.sApiSegment) (xs := a1) (dlt rfl rfl) rfl Tryz.underlying24 rfl) (.consG (pre := [(15, .int .i64 (a1.length : Int))]) (dlt rfl rfl) rfl rfl rfl rfl (.cons rfl (fun he => he) .nil) (fun he => ok_gtr (dlt rfl rfl) rfl rfl rfl) (.cons rfl (ok_orW (dlt rfl rfl) rfl rfl rfl (fun h => (bnot_t h))) (.cons rfl (ok_move (dlt rfl rfl) rfl rfl) (.consG (pre := []) (dlt rfl rfl) rfl rfl rfl rfl .nil (fun he => ok_move (dlt rfl rfl) rfl rfl) (.consG (pre := [(19, .sl Ty.sApiSegment a1)]) (dlt rfl rfl) rfl rfl rfl rfl (.cons rfl (fun he => he) .nil) (fun he => ok_call (xs := [.sl Ty.sApiSegment a1]) (caps := []) (dlt rfl rfl) rfl rfl Tryz.func58 rfl rfl rfl (d58 (gd_t hv1 he)) rfl) (.consG (pre := [(20, .bool v1)]) (dlt rfl rfl) rfl rfl rfl rfl (.cons rfl (fun he => he) .nil) (fun he => ok_not (dlt rfl rfl) rfl rfl) (.cons rfl (ok_orW (dlt rfl rfl) rfl rfl rfl (fun h => (bnot_t h))) (.nil ?_))))))))))))))
  refine ak_cond rfl (fun ht => ?_) (fun ht => ?_)
  ·have h := cond_t ht h
   refine ak_seq ?_
   refine ak_regionS (.cons rfl (ok_build (dlt rfl rfl) rfl ty29 rfl pl29 rfl rfl rfl) (.cons rfl (ok_storeV rfl rfl ty29 rfl rfl rfl rfl (by decide) rfl rfl) (.cons rfl (ok_assign (dlt rfl rfl) rfl rfl) (.nil ?_))))
   obtain rfl := Option.some.inj h
   refine ak_conv (Γ' := [(4, .ref 4 0), (5, .bool false)]) (σ' := [(4, .cells 29 [.int .i64 ((⟨0, 0, 0, [], ([] : List ApiValue), ([] : List (List UInt8))⟩ : ApiValue).kind), .int .i64 ((⟨0, 0, 0, [], ([] : List ApiValue), ([] : List (List UInt8))⟩ : ApiValue).frm), .int .i64 ((⟨0, 0, 0, [], ([] : List ApiValue), ([] : List (List UInt8))⟩ : ApiValue).to), .str ((⟨0, 0, 0, [], ([] : List ApiValue), ([] : List (List UInt8))⟩ : ApiValue).text), .sl Ty.sApiValue ((⟨0, 0, 0, [], ([] : List ApiValue), ([] : List (List UInt8))⟩ : ApiValue).items), .sl Ty.str ((⟨0, 0, 0, [], ([] : List ApiValue), ([] : List (List UInt8))⟩ : ApiValue).names)])]) (.cons rfl (.refl _) (.cons rfl (.refl _) (.nil _))) (.cons rfl (.cells (.cons (.refl _) (.cons (.refl _) (.cons (.refl _) (.cons (.refl _) (.cons (sub_nils Ty.sApiValue) (.cons (sub_nils Ty.str) (.nil)))))))) (.nil _)) ?_
   exact ak_ret (fn := Tryz.f15) Tryz.func15 rfl ⟨⟨_, _, _, _, _, _, rfl, rfl, ty29⟩, trivial⟩ rfl
  ·have h := cond_f ht h
   refine ak_skip ?_
   refine ak_seq ?_
   refine ak_seq ?_
   refine ak_regionS (.cons rfl (ok_move (dlt rfl rfl) rfl rfl) (.cons rfl (ok_lenS (τ := Ty.sApiSegment) (xs := a1) (dlt rfl rfl) rfl Tryz.underlying24 rfl) (.cons rfl (ok_move (dlt rfl rfl) rfl rfl) (.nil ?_))))
   refine ak_block ?_
   refine ak_loop ?_
   exact ak_conv (.cons rfl (.refl _) (.cons rfl (.refl _) (.cons rfl (.refl _) (.cons rfl (.refl _) (.cons rfl (.refl _) (.nil _)))))) (.cons rfl (.refl _) (.nil _)) (ih _ _ h w F ρ)
 | l15_0 a0 a1 a2 a3 a4 a5 a6 a7 =>
  intro w F ρ
  dsimp only at h
  refine ak_seq ?_
  refine ak_regionS (.cons rfl (ok_lss (dlt rfl rfl) rfl rfl rfl) (.nil ?_))
  refine ak_seq ?_
  refine ak_cond rfl (fun ht => ?_) (fun ht => ?_)
  ·have h := cond_t ht h
   refine ak_skip ?_
   refine ak_seq ?_
   refine ak_block ?_
   refine ak_seq ?_
   obtain ⟨v2, hv2, h⟩ := bind_of h
   refine ak_regionS (.cons rfl (ok_indexS (τ := Ty.sApiSegment) (x := v2) (dlt rfl rfl) rfl Tryz.underlying24 ty47 rfl rfl rfl (idx_0 hv2) (idx_1 hv2)) (.cons rfl (ok_loadRT (dlt rfl rfl) rfl ty47 rfl (by decide) rfl) (.cons rfl (ok_alloc (d := 7) (dlt rfl rfl) rfl ty47 rfl rfl rfl) (.cons rfl (ok_storeV rfl rfl ty47 rfl rfl rfl rfl (by decide) rfl rfl) (.nil ?_)))))
   refine ak_seq ?_
   refine ak_regionS (.cons rfl (ok_fieldV (dlt rfl rfl) rfl fo47_1 ty45 (by decide) rfl) (.cons rfl (ok_loadV (dlt rfl rfl) rfl ty45 rfl rfl rfl) (.cons rfl (ok_lenS (τ := Ty.sApiSelector) (xs := v2.selectors) (dlt rfl rfl) rfl Tryz.underlying45 rfl) (.cons rfl (ok_gtr (dlt rfl rfl) rfl rfl rfl) (.nil ?_)))))
   refine ak_cond rfl (fun ht => ?_) (fun ht => ?_)
   ·have h := cond_t ht h
    refine ak_seq ?_
    refine ak_regionS (.cons rfl (ok_build (dlt rfl rfl) rfl ty29 rfl pl29 rfl rfl rfl) (.cons rfl (ok_storeV rfl rfl ty29 rfl rfl rfl rfl (by decide) rfl rfl) (.cons rfl (ok_assign (dlt rfl rfl) rfl rfl) (.nil ?_))))
    obtain rfl := Option.some.inj h
    refine ak_conv (Γ' := [(4, .ref 4 0), (5, .bool false)]) (σ' := [(4, .cells 29 [.int .i64 ((⟨0, 0, 0, [], ([] : List ApiValue), ([] : List (List UInt8))⟩ : ApiValue).kind), .int .i64 ((⟨0, 0, 0, [], ([] : List ApiValue), ([] : List (List UInt8))⟩ : ApiValue).frm), .int .i64 ((⟨0, 0, 0, [], ([] : List ApiValue), ([] : List (List UInt8))⟩ : ApiValue).to), .str ((⟨0, 0, 0, [], ([] : List ApiValue), ([] : List (List UInt8))⟩ : ApiValue).text), .sl Ty.sApiValue ((⟨0, 0, 0, [], ([] : List ApiValue), ([] : List (List UInt8))⟩ : ApiValue).items), .sl Ty.str ((⟨0, 0, 0, [], ([] : List ApiValue), ([] : List (List UInt8))⟩ : ApiValue).names)])]) (.cons rfl (.refl _) (.cons rfl (.refl _) (.nil _))) (.cons rfl (.cells (.cons (.refl _) (.cons (.refl _) (.cons (.refl _) (.cons (.refl _) (.cons (sub_nils Ty.sApiValue) (.cons (sub_nils Ty.str) (.nil)))))))) (.nil _)) ?_
    exact ak_ret (fn := Tryz.f15) Tryz.func15 rfl ⟨⟨_, _, _, _, _, _, rfl, rfl, ty29⟩, trivial⟩ rfl
   ·have h := cond_f ht h
    refine ak_skip ?_
    refine ak_inBlock ?_
    refine ak_regionS (.cons rfl (ok_add (dlt rfl rfl) rfl rfl rfl) (.cons rfl (ok_move (dlt rfl rfl) rfl rfl) (.nil ?_)))
    refine ak_inLoop ?_
    exact ak_conv (.cons rfl (.refl _) (.cons rfl (.refl _) (.cons rfl (.refl _) (.cons rfl (.refl _) (.cons rfl (.refl _) (.nil _)))))) (.cons rfl (.refl _) (.nil _)) (ih _ _ h w F ρ)
  ·have h := cond_f ht h
   refine ak_exit rfl ?_
   refine ak_seq ?_
   obtain ⟨v3, hv3, h⟩ := bind_of h
   refine ak_regionS (.cons rfl (ok_move (dlt rfl rfl) rfl rfl) (.cons rfl (ok_bytesS (τ := Ty.u8) (xs := a0) (dlt rfl rfl) (fun x => x) rfl Tryz.underlying22 Tryz.underlying5 Tryz.underlying9 (fun _ => rfl) rfl (map_idf _) rfl) (.cons rfl (ok_call (xs := [.str a0, .int .i64 (40 : Int)]) (caps := []) (dlt rfl rfl) rfl rfl Tryz.func57 rfl rfl rfl (d57 hv3) rfl) (.cons rfl (ok_move (dlt rfl rfl) rfl rfl) (.cons rfl (ok_extract (dlt rfl rfl) rfl rfl rfl) (.cons rfl (ok_extract (dlt rfl rfl) rfl rfl rfl) (.cons rfl (ok_alloc (d := 8) (dlt rfl rfl) rfl ty29 rfl rfl rfl) (.cons rfl (ok_alloc (d := 9) (dlt rfl rfl) rfl ty57 rfl rfl rfl) (.cons rfl (ok_storeV rfl rfl ty29 rfl rfl rfl rfl (by decide) rfl rfl) (.cons rfl (ok_storeV rfl rfl ty57 rfl rfl rfl rfl (by decide) rfl rfl) (.nil ?_)))))))))))
   refine ak_seq ?_
   refine ak_drawL [⟨some 42, [(8, .ref 8 0)], none, true, .agg [.int .i64 v3.1.kind, .int .i64 v3.1.frm, .int .i64 v3.1.to, .str v3.1.text, .sl Ty.sApiValue v3.1.items, .sl Ty.str v3.1.names], [(8, .cells 29 [.int .i64 v3.1.kind, .int .i64 v3.1.frm, .int .i64 v3.1.to, .str v3.1.text, .sl Ty.sApiValue v3.1.items, .sl Ty.str v3.1.names])], []⟩,
  ⟨some 43, [(9, .ref 9 0)], none, true, .ref 9 0, [], []⟩,
  ⟨some 44, [(43, .ref 9 0)], none, true, .int .i64 v3.2.kind, [(9, .cells 57 [.int .i64 v3.2.kind, .int .i64 v3.2.pos])], []⟩,
  ⟨some 45, [(44, .int .i64 v3.2.kind)], none, true, .bool (v3.2.kind == (1 : Int)), [], []⟩,
  ⟨none, [(4, .ref 4 0), (42, .agg [.int .i64 v3.1.kind, .int .i64 v3.1.frm, .int .i64 v3.1.to, .str v3.1.text, .sl Ty.sApiValue v3.1.items, .sl Ty.str v3.1.names])], none, true, .undef, [(4, .cells 29 [.int .i64 a4, .int .i64 a5, .int .i64 a6, .str a7, .nils, .nils])], [(4, .cells 29 [.int .i64 v3.1.kind, .int .i64 v3.1.frm, .int .i64 v3.1.to, .str v3.1.text, .sl Ty.sApiValue v3.1.items, .sl Ty.str v3.1.names])]⟩,
  ⟨some 5, [(45, .bool (v3.2.kind == (1 : Int)))], none, true, .bool (v3.2.kind == (1 : Int)), [], []⟩] [[], [], [1], [1, 2], [0], [0, 1, 2, 3, 4]] (by kernel_rfl) (by kernel_rfl) (.cons (qok (dlt rfl rfl) rfl (.same rfl .nil) (NeedQ.all (.cons rfl .nil)) (fun Γx σx => ok_loadVT (dlt rfl rfl) rfl ty29 rfl rfl (by decide) rfl)) (.cons (qok (dlt rfl rfl) rfl (.same rfl .nil) (NeedQ.all .nil) (fun Γx σx => ok_fieldV (dlt rfl rfl) rfl fo57_0 ty3 (by decide) rfl)) (.cons (qok (dlt rfl rfl) rfl (.same rfl .nil) (NeedQ.all (.cons rfl .nil)) (fun Γx σx => ok_loadV (dlt rfl rfl) rfl ty3 rfl rfl rfl)) (.cons (qok (dlt rfl rfl) rfl (.same rfl .nil) (NeedQ.all .nil) (fun Γx σx => ok_eql (dlt rfl rfl) rfl rfl rfl)) (.cons (qokN (nodst rfl) rfl (.same rfl (.same rfl .nil)) (NeedQ.all (.cons rfl .nil)) (fresh0 rfl) (fun Γx σx hfr => ok_storeV rfl rfl ty29 rfl rfl rfl rfl (by decide) rfl rfl)) (.cons (qok (dlt rfl rfl) rfl (.same rfl .nil) (NeedQ.all .nil) (fun Γx σx => ok_assign (dlt rfl rfl) rfl rfl)) (.nil _ _))))))) (.nil ?_)
   obtain rfl := Option.some.inj h
   refine ak_conv (Γ' := [(4, .ref 4 0), (5, .bool (v3.2.kind == (1 : Int)))]) (σ' := [(4, .cells 29 [.int .i64 v3.1.kind, .int .i64 v3.1.frm, .int .i64 v3.1.to, .str v3.1.text, .sl Ty.sApiValue v3.1.items, .sl Ty.str v3.1.names])]) (.cons rfl (.refl _) (.cons rfl (.refl _) (.nil _))) (.cons rfl (.refl _) (.nil _)) ?_
   exact ak_ret (fn := Tryz.f15) Tryz.func15 rfl ⟨⟨_, _, _, _, _, _, rfl, rfl, ty29⟩, trivial⟩ rfl)
theorem d15 {a0 : List UInt8} {a1 : List ApiSegment} {r : ApiValue × Bool} (h : f15 (.e15 a0 a1) = some r) : Does Tryz.prog GG 15 [.sl Ty.u8 a0, .sl Ty.sApiSegment a1] [] (fun z _ => z = .tup [.agg [.int .i64 r.1.kind, .int .i64 r.1.frm, .int .i64 r.1.to, .str r.1.text, .sl Ty.sApiValue r.1.items, .sl Ty.str r.1.names], .bool r.2]) := fn_of (fn := Tryz.f15) Tryz.func15 rfl Tryz.ntmps15 rfl (w15 _ _ h)
/-- riffle/riffleref12.Place -/
noncomputable abbrev b179 : Code := codeOf Tryz.f179
inductive L179 where
 | e179 (a0 : Int) (a1 : Int)
noncomputable def f179 : L179 → Option Int
 | .e179 a0 a1 =>
  if (decide ((0 : Int) ≤ a0)) = true then
   some a0
  else
   some (IntKind.wrap .i64 (a1 + a0))
def M179 : L179 → Int → Prop
 | .e179 a0 a1, r => ∀ (w : World) (F : Nat → Prop) (ρ : Rho), AK Tryz.prog (ctx GG 11 w F ρ []) 179 [.code b179] (argE 0 [.int .i64 a0, .int .i64 a1]) [] (fun z _ => z = .int .i64 r)
theorem w179 : ∀ (l : L179) (r : Int), f179 l = some r → M179 l r := (by
 intro l r h
 cases l with
 | e179 a0 a1 =>
  intro w F ρ
  dsimp only [f179] at h
  refine ak_seq ?_
  refine ak_regionS (.cons rfl (ok_assign (dlt rfl rfl) rfl rfl) (.nil ?_))
  refine ak_seq ?_
  refine ak_seq ?_
  refine ak_regionS (.cons rfl (ok_move (dlt rfl rfl) rfl rfl) (.cons rfl (ok_geq (dlt rfl rfl) rfl rfl rfl) (.nil ?_)))
  refine ak_cond rfl (fun ht => ?_) (fun ht => ?_)
  ·have h := cond_t ht h
   refine ak_seq ?_
   refine ak_regionS (.cons rfl (ok_move (dlt rfl rfl) rfl rfl) (.cons rfl (ok_assign (dlt rfl rfl) rfl rfl) (.nil ?_)))
   obtain rfl := Option.some.inj h
   refine ak_conv (Γ' := [(4, .int .i64 a0)]) (σ' := []) (.cons rfl (.refl _) (.nil _)) (.nil _) ?_
   exact ak_ret (fn := Tryz.f179) Tryz.func179 rfl trivial rfl
  ·have h := cond_f ht h
   refine ak_skip ?_
   refine ak_seq ?_
   refine ak_regionS (.cons rfl (ok_move (dlt rfl rfl) rfl rfl) (.cons rfl (ok_move (dlt rfl rfl) rfl rfl) (.cons rfl (ok_add (dlt rfl rfl) rfl rfl rfl) (.cons rfl (ok_assign (dlt rfl rfl) rfl rfl) (.nil ?_)))))
   obtain rfl := Option.some.inj h
   refine ak_conv (Γ' := [(4, .int .i64 (IntKind.wrap .i64 (a1 + a0)))]) (σ' := []) (.cons rfl (.refl _) (.nil _)) (.nil _) ?_
   exact ak_ret (fn := Tryz.f179) Tryz.func179 rfl trivial rfl)
theorem d179 {a0 : Int} {a1 : Int} {r : Int} (h : f179 (.e179 a0 a1) = some r) : Does Tryz.prog GG 179 [.int .i64 a0, .int .i64 a1] [] (fun z _ => z = .int .i64 r) := fn_of (fn := Tryz.f179) Tryz.func179 rfl Tryz.ntmps179 rfl (w179 _ _ h)
/-- riffle/riffleref12.clip -/
noncomputable abbrev b210 : Code := codeOf Tryz.f210
inductive L210 where
 | e210 (a0 : Int) (a1 : Int) (a2 : Int)
 | l210_0 (a0 : Int) (a1 : Int)
 | l210_1 (a0 : Int)
noncomputable def f210 : L210 → Option Int
 | .e210 a0 a1 a2 =>
  if (decide (a2 < a0)) = true then
   f210 (.l210_0 a2 a1)
  else
   f210 (.l210_0 a0 a1)
 | .l210_0 a0 a1 =>
  if (decide (a0 < a1)) = true then
   f210 (.l210_1 a1)
  else
   f210 (.l210_1 a0)
 | .l210_1 a0 =>
  some a0
 partial_fixpoint
def M210 : L210 → Int → Prop
 | .e210 a0 a1 a2, r => ∀ (w : World) (F : Nat → Prop) (ρ : Rho), AK Tryz.prog (ctx GG 16 w F ρ []) 210 [.code b210] (argE 0 [.int .i64 a0, .int .i64 a1, .int .i64 a2]) [] (fun z _ => z = .int .i64 r)
 | .l210_0 a0 a1, r => ∀ (w : World) (F : Nat → Prop) (ρ : Rho), AK Tryz.prog (ctx GG 16 w F ρ []) 210 [.code (c2 (c2 b210))] [(0, .int .i64 a0), (1, .int .i64 a1)] [] (fun z _ => z = .int .i64 r)
 | .l210_1 a0, r => ∀ (w : World) (F : Nat → Prop) (ρ : Rho), AK Tryz.prog (ctx GG 16 w F ρ []) 210 [.code (c2 (c2 (c2 b210)))] [(0, .int .i64 a0)] [] (fun z _ => z = .int .i64 r)
theorem w210 : ∀ (l : L210) (r : Int), f210 l = some r → M210 l r := f210.partial_correctness M210 (by
 intro f ih l r h
 cases l with
 | e210 a0 a1 a2 =>
  intro w F ρ
  dsimp only at h
  refine ak_seq ?_
  refine ak_regionS (.cons rfl (ok_assign (dlt rfl rfl) rfl rfl) (.nil ?_))
  refine ak_seq ?_
  refine ak_seq ?_
  refine ak_regionS (.cons rfl (ok_move (dlt rfl rfl) rfl rfl) (.cons rfl (ok_move (dlt rfl rfl) rfl rfl) (.cons rfl (ok_gtr (dlt rfl rfl) rfl rfl rfl) (.nil ?_))))
  refine ak_cond rfl (fun ht => ?_) (fun ht => ?_)
  ·have h := cond_t ht h
   refine ak_regionS (.cons rfl (ok_move (dlt rfl rfl) rfl rfl) (.cons rfl (ok_assign (dlt rfl rfl) rfl rfl) (.nil ?_)))
   exact ak_conv (.cons rfl (.refl _) (.cons rfl (.refl _) (.nil _))) (.nil _) (ih _ _ h w F ρ)
  ·have h := cond_f ht h
   refine ak_skip ?_
   exact ak_conv (.cons rfl (.refl _) (.cons rfl (.refl _) (.nil _))) (.nil _) (ih _ _ h w F ρ)
 | l210_0 a0 a1 =>
  intro w F ρ
  dsimp only at h
  refine ak_seq ?_
  refine ak_seq ?_
  refine ak_regionS (.cons rfl (ok_move (dlt rfl rfl) rfl rfl) (.cons rfl (ok_move (dlt rfl rfl) rfl rfl) (.cons rfl (ok_lss (dlt rfl rfl) rfl rfl rfl) (.nil ?_))))
  refine ak_cond rfl (fun ht => ?_) (fun ht => ?_)
  ·have h := cond_t ht h
   refine ak_regionS (.cons rfl (ok_move (dlt rfl rfl) rfl rfl) (.cons rfl (ok_assign (dlt rfl rfl) rfl rfl) (.nil ?_)))
   exact ak_conv (.cons rfl (.refl _) (.nil _)) (.nil _) (ih _ _ h w F ρ)
  ·have h := cond_f ht h
   refine ak_skip ?_
   exact ak_conv (.cons rfl (.refl _) (.nil _)) (.nil _) (ih _ _ h w F ρ)
 | l210_1 a0 =>
  intro w F ρ
  dsimp only at h
  refine ak_seq ?_
  refine ak_regionS (.cons rfl (ok_move (dlt rfl rfl) rfl rfl) (.cons rfl (ok_assign (dlt rfl rfl) rfl rfl) (.nil ?_)))
  obtain rfl := Option.some.inj h
  refine ak_conv (Γ' := [(6, .int .i64 a0)]) (σ' := []) (.cons rfl (.refl _) (.nil _)) (.nil _) ?_
  exact ak_ret (fn := Tryz.f210) Tryz.func210 rfl trivial rfl)
theorem d210 {a0 : Int} {a1 : Int} {a2 : Int} {r : Int} (h : f210 (.e210 a0 a1 a2) = some r) : Does Tryz.prog GG 210 [.int .i64 a0, .int .i64 a1, .int .i64 a2] [] (fun z _ => z = .int .i64 r) := fn_of (fn := Tryz.f210) Tryz.func210 rfl Tryz.ntmps210 rfl (w210 _ _ h)
end Go.Proofs.YtonlbdholdaifaaGreatDoor
end
section
set_option linter.unusedVariables false
set_option linter.unusedSimpArgs false
set_option maxRecDepth 10000
namespace Go.Proofs.YtonlbdholdaifaaGreatDoor
open Go Go.Rf Go.Proofs
/-- riffle/riffleref12.Bounds -/
noncomputable abbrev b180 : Code := codeOf Tryz.f180
inductive L180 where
 | e180 (a0 : ApiSelector) (a1 : Int)
 | l180_0 (a0 : Int) (a1 : Int) (a2 : Int) (a3 : ApiSelector)
 | l180_1 (a0 : Int) (a1 : Int) (a2 : Int) (a3 : ApiSelector)
 | l180_2 (a0 : Int) (a1 : Int) (a2 : Int)
 | l180_3 (a0 : Int) (a1 : Int) (a2 : Int)
noncomputable def f180 : L180 → Option (Int × Int)
 | .e180 a0 a1 =>
  if (a0.stride == (0 : Int)) = true then
   some (0, 0)
  else
   f179 (.e179 a0.start a1) >>= fun v1 =>
   f179 (.e179 a0.stop a1) >>= fun v2 =>
   if (decide ((0 : Int) < a0.stride)) = true then
    if (!a0.hasStart) = true then
     f180 (.l180_0 a1 (0 : Int) v2 a0)
    else
     f180 (.l180_0 a1 v1 v2 a0)
   else
    if (!a0.hasStart) = true then
     f180 (.l180_1 a1 (IntKind.wrap .i64 (a1 - (1 : Int))) v2 a0)
    else
     f180 (.l180_1 a1 v1 v2 a0)
 | .l180_0 a0 a1 a2 a3 =>
  if (!a3.hasEnd) = true then
   f180 (.l180_2 a0 a1 a0)
  else
   f180 (.l180_2 a0 a1 a2)
 | .l180_1 a0 a1 a2 a3 =>
  if (!a3.hasEnd) = true then
   f180 (.l180_3 a0 a1 (-1))
  else
   f180 (.l180_3 a0 a1 a2)
 | .l180_2 a0 a1 a2 =>
  f210 (.e210 a1 (0 : Int) a0) >>= fun v3 =>
  f210 (.e210 a2 (0 : Int) a0) >>= fun v4 =>
  some (v3, v4)
 | .l180_3 a0 a1 a2 =>
  f210 (.e210 a2 (-1) (IntKind.wrap .i64 (a0 - (1 : Int)))) >>= fun v5 =>
  f210 (.e210 a1 (-1) (IntKind.wrap .i64 (a0 - (1 : Int)))) >>= fun v6 =>
  some (v5, v6)
 partial_fixpoint
def M180 : L180 → (Int × Int) → Prop
 | .e180 a0 a1, r => ∀ (w : World) (F : Nat → Prop) (ρ : Rho), AK Tryz.prog (ctx GG 51 w F ρ []) 180 [.code b180] (argE 0 [.agg [.int .i64 a0.kind, .str a0.name, .int .i64 a0.index, .int .i64 a0.start, .int .i64 a0.stop, .bool a0.hasStart, .bool a0.hasEnd, .int .i64 a0.stride], .int .i64 a1]) [] (fun z _ => z = .tup [.int .i64 r.1, .int .i64 r.2])
 | .l180_0 a0 a1 a2 a3, r => ∀ (w : World) (F : Nat → Prop) (ρ : Rho), AK Tryz.prog (ctx GG 51 w F ρ []) 180 [.code (c2 (c1 (c2 (c1 (c2 (c2 (c2 (c2 b180)))))))), .code (c2 (c2 (c2 (c2 (c2 b180)))))] [(1, .int .i64 a0), (2, .ref 2 0), (6, .int .i64 a1), (7, .int .i64 a2)] [(2, .cells 49 [.int .i64 a3.kind, .str a3.name, .int .i64 a3.index, .int .i64 a3.start, .int .i64 a3.stop, .bool a3.hasStart, .bool a3.hasEnd, .int .i64 a3.stride])] (fun z _ => z = .tup [.int .i64 r.1, .int .i64 r.2])
 | .l180_1 a0 a1 a2 a3, r => ∀ (w : World) (F : Nat → Prop) (ρ : Rho), AK Tryz.prog (ctx GG 51 w F ρ []) 180 [.code (c2 (c2 (c2 (c2 (c2 (c2 b180))))))] [(1, .int .i64 a0), (2, .ref 2 0), (6, .int .i64 a1), (7, .int .i64 a2)] [(2, .cells 49 [.int .i64 a3.kind, .str a3.name, .int .i64 a3.index, .int .i64 a3.start, .int .i64 a3.stop, .bool a3.hasStart, .bool a3.hasEnd, .int .i64 a3.stride])] (fun z _ => z = .tup [.int .i64 r.1, .int .i64 r.2])
 | .l180_2 a0 a1 a2, r => ∀ (w : World) (F : Nat → Prop) (ρ : Rho), AK Tryz.prog (ctx GG 51 w F ρ []) 180 [.code (c2 (c2 (c1 (c2 (c1 (c2 (c2 (c2 (c2 b180))))))))), .code (c2 (c2 (c2 (c2 (c2 b180)))))] [(1, .int .i64 a0), (6, .int .i64 a1), (7, .int .i64 a2)] [] (fun z _ => z = .tup [.int .i64 r.1, .int .i64 r.2])
 | .l180_3 a0 a1 a2, r => ∀ (w : World) (F : Nat → Prop) (ρ : Rho), AK Tryz.prog (ctx GG 51 w F ρ []) 180 [.code (c2 (c2 (c2 (c2 (c2 (c2 (c2 b180)))))))] [(1, .int .i64 a0), (6, .int .i64 a1), (7, .int .i64 a2)] [] (fun z _ => z = .tup [.int .i64 r.1, .int .i64 r.2])
theorem w180 : ∀ (l : L180) (r : Int × Int), f180 l = some r → M180 l r := f180.partial_correctness M180 (by
 intro f ih l r h
 cases l with
 | e180 a0 a1 =>
  intro w F ρ
  dsimp only at h
  refine ak_seq ?_
  refine ak_regionS (.cons rfl (ok_box (d := 2) (dlt rfl rfl) rfl rfl rfl rfl rfl) (.cons rfl (ok_assign (dlt rfl rfl) rfl rfl) (.cons rfl (ok_assign (dlt rfl rfl) rfl rfl) (.nil ?_))))
  refine ak_seq ?_
  refine ak_seq ?_
  refine ak_regionS (.cons rfl (ok_fieldV (dlt rfl rfl) rfl fo49_7 ty3 (by decide) rfl) (.cons rfl (ok_loadV (dlt rfl rfl) rfl ty3 rfl rfl rfl) (.cons rfl (ok_eql (dlt rfl rfl) rfl rfl rfl) (.nil ?_))))
  refine ak_cond rfl (fun ht => ?_) (fun ht => ?_)
  ·have h := cond_t ht h
   refine ak_seq ?_
   refine ak_regionS (.cons rfl (ok_assign (dlt rfl rfl) rfl rfl) (.cons rfl (ok_assign (dlt rfl rfl) rfl rfl) (.nil ?_)))
   obtain rfl := Option.some.inj h
   refine ak_conv (Γ' := [(4, .int .i64 (0 : Int)), (5, .int .i64 (0 : Int))]) (σ' := []) (.cons rfl (.refl _) (.cons rfl (.refl _) (.nil _))) (.nil _) ?_
   exact ak_ret (fn := Tryz.f180) Tryz.func180 rfl trivial rfl
  ·have h := cond_f ht h
   refine ak_skip ?_
   refine ak_seq ?_
   obtain ⟨v1, hv1, h⟩ := bind_of h
   refine ak_regionS (.cons rfl (ok_fieldV (dlt rfl rfl) rfl fo49_3 ty3 (by decide) rfl) (.cons rfl (ok_loadV (dlt rfl rfl) rfl ty3 rfl rfl rfl) (.cons rfl (ok_move (dlt rfl rfl) rfl rfl) (.cons rfl (ok_call (xs := [.int .i64 a0.start, .int .i64 a1]) (caps := []) (dlt rfl rfl) rfl rfl Tryz.func179 rfl rfl rfl (d179 hv1) rfl) (.cons rfl (ok_assign (dlt rfl rfl) rfl rfl) (.nil ?_))))))
   refine ak_seq ?_
   obtain ⟨v2, hv2, h⟩ := bind_of h
   refine ak_regionS (.cons rfl (ok_fieldV (dlt rfl rfl) rfl fo49_4 ty3 (by decide) rfl) (.cons rfl (ok_loadV (dlt rfl rfl) rfl ty3 rfl rfl rfl) (.cons rfl (ok_move (dlt rfl rfl) rfl rfl) (.cons rfl (ok_call (xs := [.int .i64 a0.stop, .int .i64 a1]) (caps := []) (dlt rfl rfl) rfl rfl Tryz.func179 rfl rfl rfl (d179 hv2) rfl) (.cons rfl (ok_assign (dlt rfl rfl) rfl rfl) (.nil ?_))))))
   refine ak_seq ?_
   refine ak_seq ?_
   refine ak_regionS (.cons rfl (ok_fieldV (dlt rfl rfl) rfl fo49_7 ty3 (by decide) rfl) (.cons rfl (ok_loadV (dlt rfl rfl) rfl ty3 rfl rfl rfl) (.cons rfl (ok_gtr (dlt rfl rfl) rfl rfl rfl) (.nil ?_))))
   refine ak_cond rfl (fun ht => ?_) (fun ht => ?_)
   ·have h := cond_t ht h
    refine ak_seq ?_
    refine ak_seq ?_
    refine ak_regionS (.cons rfl (ok_fieldV (dlt rfl rfl) rfl fo49_5 ty4 (by decide) rfl) (.cons rfl (ok_loadV (dlt rfl rfl) rfl ty4 rfl rfl rfl) (.cons rfl (ok_not (dlt rfl rfl) rfl rfl) (.nil ?_))))
    refine ak_cond rfl (fun ht => ?_) (fun ht => ?_)
    ·have h := cond_t ht h
     refine ak_regionS (.cons rfl (ok_assign (dlt rfl rfl) rfl rfl) (.nil ?_))
     exact ak_conv (.cons rfl (.refl _) (.cons rfl (.refl _) (.cons rfl (.refl _) (.cons rfl (.refl _) (.nil _))))) (.cons rfl (.refl _) (.nil _)) (ih _ _ h w F ρ)
    ·have h := cond_f ht h
     refine ak_skip ?_
     exact ak_conv (.cons rfl (.refl _) (.cons rfl (.refl _) (.cons rfl (.refl _) (.cons rfl (.refl _) (.nil _))))) (.cons rfl (.refl _) (.nil _)) (ih _ _ h w F ρ)
   ·have h := cond_f ht h
    refine ak_skip ?_
    refine ak_seq ?_
    refine ak_seq ?_
    refine ak_regionS (.cons rfl (ok_fieldV (dlt rfl rfl) rfl fo49_5 ty4 (by decide) rfl) (.cons rfl (ok_loadV (dlt rfl rfl) rfl ty4 rfl rfl rfl) (.cons rfl (ok_not (dlt rfl rfl) rfl rfl) (.nil ?_))))
    refine ak_cond rfl (fun ht => ?_) (fun ht => ?_)
    ·have h := cond_t ht h
     refine ak_regionS (.cons rfl (ok_move (dlt rfl rfl) rfl rfl) (.cons rfl (ok_sub (dlt rfl rfl) rfl rfl rfl) (.cons rfl (ok_assign (dlt rfl rfl) rfl rfl) (.nil ?_))))
     exact ak_conv (.cons rfl (.refl _) (.cons rfl (.refl _) (.cons rfl (.refl _) (.cons rfl (.refl _) (.nil _))))) (.cons rfl (.refl _) (.nil _)) (ih _ _ h w F ρ)
    ·have h := cond_f ht h
     refine ak_skip ?_
     exact ak_conv (.cons rfl (.refl _) (.cons rfl (.refl _) (.cons rfl (.refl _) (.cons rfl (.refl _) (.nil _))))) (.cons rfl (.refl _) (.nil _)) (ih _ _ h w F ρ)
 | l180_0 a0 a1 a2 a3 =>
  intro w F ρ
  dsimp only at h
  refine ak_seq ?_
  refine ak_seq ?_
  refine ak_regionS (.cons rfl (ok_fieldV (dlt rfl rfl) rfl fo49_6 ty4 (by decide) rfl) (.cons rfl (ok_loadV (dlt rfl rfl) rfl ty4 rfl rfl rfl) (.cons rfl (ok_not (dlt rfl rfl) rfl rfl) (.nil ?_))))
  refine ak_cond rfl (fun ht => ?_) (fun ht => ?_)
  ·have h := cond_t ht h
   refine ak_regionS (.cons rfl (ok_move (dlt rfl rfl) rfl rfl) (.cons rfl (ok_assign (dlt rfl rfl) rfl rfl) (.nil ?_)))
   exact ak_conv (.cons rfl (.refl _) (.cons rfl (.refl _) (.cons rfl (.refl _) (.nil _)))) (.nil _) (ih _ _ h w F ρ)
  ·have h := cond_f ht h
   refine ak_skip ?_
   exact ak_conv (.cons rfl (.refl _) (.cons rfl (.refl _) (.cons rfl (.refl _) (.nil _)))) (.nil _) (ih _ _ h w F ρ)
 | l180_1 a0 a1 a2 a3 =>
  intro w F ρ
  dsimp only at h
  refine ak_seq ?_
  refine ak_seq ?_
  refine ak_regionS (.cons rfl (ok_fieldV (dlt rfl rfl) rfl fo49_6 ty4 (by decide) rfl) (.cons rfl (ok_loadV (dlt rfl rfl) rfl ty4 rfl rfl rfl) (.cons rfl (ok_not (dlt rfl rfl) rfl rfl) (.nil ?_))))
  refine ak_cond rfl (fun ht => ?_) (fun ht => ?_)
  ·have h := cond_t ht h
   refine ak_regionS (.cons rfl (ok_assign (dlt rfl rfl) rfl rfl) (.nil ?_))
   exact ak_conv (.cons rfl (.refl _) (.cons rfl (.refl _) (.cons rfl (.refl _) (.nil _)))) (.nil _) (ih _ _ h w F ρ)
  ·have h := cond_f ht h
   refine ak_skip ?_
   exact ak_conv (.cons rfl (.refl _) (.cons rfl (.refl _) (.cons rfl (.refl _) (.nil _)))) (.nil _) (ih _ _ h w F ρ)
 | l180_2 a0 a1 a2 =>
  intro w F ρ
  dsimp only at h
  refine ak_seq ?_
  obtain ⟨v3, hv3, h⟩ := bind_of h
  obtain ⟨v4, hv4, h⟩ := bind_of h
  refine ak_regionS (.cons rfl (ok_move (dlt rfl rfl) rfl rfl) (.cons rfl (ok_move (dlt rfl rfl) rfl rfl) (.cons rfl (ok_call (xs := [.int .i64 a1, .int .i64 (0 : Int), .int .i64 a0]) (caps := []) (dlt rfl rfl) rfl rfl Tryz.func210 rfl rfl rfl (d210 hv3) rfl) (.cons rfl (ok_move (dlt rfl rfl) rfl rfl) (.cons rfl (ok_move (dlt rfl rfl) rfl rfl) (.cons rfl (ok_call (xs := [.int .i64 a2, .int .i64 (0 : Int), .int .i64 a0]) (caps := []) (dlt rfl rfl) rfl rfl Tryz.func210 rfl rfl rfl (d210 hv4) rfl) (.cons rfl (ok_assign (dlt rfl rfl) rfl rfl) (.cons rfl (ok_assign (dlt rfl rfl) rfl rfl) (.nil ?_)))))))))
  obtain rfl := Option.some.inj h
  refine ak_conv (Γ' := [(4, .int .i64 v3), (5, .int .i64 v4)]) (σ' := []) (.cons rfl (.refl _) (.cons rfl (.refl _) (.nil _))) (.nil _) ?_
  exact ak_ret (fn := Tryz.f180) Tryz.func180 rfl trivial rfl
 | l180_3 a0 a1 a2 =>
  intro w F ρ
  dsimp only at h
  refine ak_seq ?_
  obtain ⟨v5, hv5, h⟩ := bind_of h
  obtain ⟨v6, hv6, h⟩ := bind_of h
  refine ak_regionS (.cons rfl (ok_move (dlt rfl rfl) rfl rfl) (.cons rfl (ok_move (dlt rfl rfl) rfl rfl) (.cons rfl (ok_sub (dlt rfl rfl) rfl rfl rfl) (.cons rfl (ok_call (xs := [.int .i64 a2, .int .i64 (-1), .int .i64 (IntKind.wrap .i64 (a0 - (1 : Int)))]) (caps := []) (dlt rfl rfl) rfl rfl Tryz.func210 rfl rfl rfl (d210 hv5) rfl) (.cons rfl (ok_move (dlt rfl rfl) rfl rfl) (.cons rfl (ok_move (dlt rfl rfl) rfl rfl) (.cons rfl (ok_sub (dlt rfl rfl) rfl rfl rfl) (.cons rfl (ok_call (xs := [.int .i64 a1, .int .i64 (-1), .int .i64 (IntKind.wrap .i64 (a0 - (1 : Int)))]) (caps := []) (dlt rfl rfl) rfl rfl Tryz.func210 rfl rfl rfl (d210 hv6) rfl) (.cons rfl (ok_assign (dlt rfl rfl) rfl rfl) (.cons rfl (ok_assign (dlt rfl rfl) rfl rfl) (.nil ?_)))))))))))
  obtain rfl := Option.some.inj h
  refine ak_conv (Γ' := [(4, .int .i64 v5), (5, .int .i64 v6)]) (σ' := []) (.cons rfl (.refl _) (.cons rfl (.refl _) (.nil _))) (.nil _) ?_
  exact ak_ret (fn := Tryz.f180) Tryz.func180 rfl trivial rfl)
theorem d180 {a0 : ApiSelector} {a1 : Int} {r : Int × Int} (h : f180 (.e180 a0 a1) = some r) : Does Tryz.prog GG 180 [.agg [.int .i64 a0.kind, .str a0.name, .int .i64 a0.index, .int .i64 a0.start, .int .i64 a0.stop, .bool a0.hasStart, .bool a0.hasEnd, .int .i64 a0.stride], .int .i64 a1] [] (fun z _ => z = .tup [.int .i64 r.1, .int .i64 r.2]) := fn_of (fn := Tryz.f180) Tryz.func180 rfl Tryz.ntmps180 rfl (w180 _ _ h)
/-- riffle/riffleref12.Has -/
noncomputable abbrev b128 : Code := codeOf Tryz.f128
inductive L128 where
 | e128 (a0 : ApiSelector) (a1 : Int) (a2 : Int)
noncomputable def f128 : L128 → Option Bool
 | .e128 a0 a1 a2 =>
  if ((decide (a1 < (0 : Int))) || (decide (a2 ≤ a1))) = true then
   some false
  else
   if (a0.kind == (2 : Int)) = true then
    f179 (.e179 a0.index a2) >>= fun v1 =>
    some (v1 == a1)
   else
    if ((a0.kind != (3 : Int)) || (a0.stride == (0 : Int))) = true then
     some false
    else
     f180 (.e180 a0 a2) >>= fun v2 =>
     if (decide ((0 : Int) < a0.stride)) = true then
      gd ((decide (v2.1 ≤ a1)) && (decide (a1 < v2.2))) (need (¬ a0.stride = 0)) >>= fun v3 =>
      some (((decide (v2.1 ≤ a1)) && (decide (a1 < v2.2))) && (((IntKind.wrap .i64 (a1 - v2.1)).tmod a0.stride) == (0 : Int)))
     else
      gd ((decide (v2.1 < a1)) && (decide (a1 ≤ v2.2))) (need (¬ (IntKind.wrap .i64 ((0 : Int) - a0.stride)) = 0)) >>= fun v4 =>
      some (((decide (v2.1 < a1)) && (decide (a1 ≤ v2.2))) && (((IntKind.wrap .i64 (v2.2 - a1)).tmod (IntKind.wrap .i64 ((0 : Int) - a0.stride))) == (0 : Int)))
def M128 : L128 → Bool → Prop
 | .e128 a0 a1 a2, r => ∀ (w : World) (F : Nat → Prop) (ρ : Rho), AK Tryz.prog (ctx GG 77 w F ρ []) 128 [.code b128] (argE 0 [.agg [.int .i64 a0.kind, .str a0.name, .int .i64 a0.index, .int .i64 a0.start, .int .i64 a0.stop, .bool a0.hasStart, .bool a0.hasEnd, .int .i64 a0.stride], .int .i64 a1, .int .i64 a2]) [] (fun z _ => z = .bool r)
theorem w128 : ∀ (l : L128) (r : Bool), f128 l = some r → M128 l r := (by
 intro l r h
 cases l with
 | e128 a0 a1 a2 =>
  intro w F ρ
  dsimp only [f128] at h
  refine ak_seq ?_
  refine ak_regionS (.cons rfl (ok_box (d := 3) (dlt rfl rfl) rfl rfl rfl rfl rfl) (.cons rfl (ok_assign (dlt rfl rfl) rfl rfl) (.nil ?_)))
  refine ak_seq ?_
  refine ak_seq ?_
  refine ak_regionS (.cons rfl (ok_move (dlt rfl rfl) rfl rfl) (.cons rfl (ok_lss (dlt rfl rfl) rfl rfl rfl) (.cons rfl (ok_move (dlt rfl rfl) rfl rfl) (.consG (pre := []) (dlt rfl rfl) rfl rfl rfl rfl .nil (fun he => ok_move (dlt rfl rfl) rfl rfl) (.consG (pre := []) (dlt rfl rfl) rfl rfl rfl rfl .nil (fun he => ok_move (dlt rfl rfl) rfl rfl) (.consG (pre := [(12, .int .i64 a1), (13, .int .i64 a2)]) (dlt rfl rfl) rfl rfl rfl rfl (.cons rfl (fun he => he) (.cons rfl (fun he => he) .nil)) (fun he => ok_geq (dlt rfl rfl) rfl rfl rfl) (.cons rfl (ok_orW (dlt rfl rfl) rfl rfl rfl (fun h => (bnot_t h))) (.nil ?_))))))))
  refine ak_cond rfl (fun ht => ?_) (fun ht => ?_)
  ·have h := cond_t ht h
   refine ak_seq ?_
   refine ak_regionS (.cons rfl (ok_assign (dlt rfl rfl) rfl rfl) (.nil ?_))
   obtain rfl := Option.some.inj h
   refine ak_conv (Γ' := [(6, .bool false)]) (σ' := []) (.cons rfl (.refl _) (.nil _)) (.nil _) ?_
   exact ak_ret (fn := Tryz.f128) Tryz.func128 rfl trivial rfl
  ·have h := cond_f ht h
   refine ak_skip ?_
   refine ak_seq ?_
   refine ak_seq ?_
   refine ak_regionS (.cons rfl (ok_fieldV (dlt rfl rfl) rfl fo49_0 ty3 (by decide) rfl) (.cons rfl (ok_loadV (dlt rfl rfl) rfl ty3 rfl rfl rfl) (.cons rfl (ok_eql (dlt rfl rfl) rfl rfl rfl) (.nil ?_))))
   refine ak_cond rfl (fun ht => ?_) (fun ht => ?_)
   ·have h := cond_t ht h
    refine ak_seq ?_
    obtain ⟨v1, hv1, h⟩ := bind_of h
    refine ak_regionS (.cons rfl (ok_fieldV (dlt rfl rfl) rfl fo49_2 ty3 (by decide) rfl) (.cons rfl (ok_loadV (dlt rfl rfl) rfl ty3 rfl rfl rfl) (.cons rfl (ok_move (dlt rfl rfl) rfl rfl) (.cons rfl (ok_call (xs := [.int .i64 a0.index, .int .i64 a2]) (caps := []) (dlt rfl rfl) rfl rfl Tryz.func179 rfl rfl rfl (d179 hv1) rfl) (.cons rfl (ok_move (dlt rfl rfl) rfl rfl) (.cons rfl (ok_eql (dlt rfl rfl) rfl rfl rfl) (.cons rfl (ok_assign (dlt rfl rfl) rfl rfl) (.nil ?_))))))))
    obtain rfl := Option.some.inj h
    refine ak_conv (Γ' := [(6, .bool (v1 == a1))]) (σ' := []) (.cons rfl (.refl _) (.nil _)) (.nil _) ?_
    exact ak_ret (fn := Tryz.f128) Tryz.func128 rfl trivial rfl
   ·have h := cond_f ht h
    refine ak_skip ?_
    refine ak_seq ?_
    refine ak_seq ?_
    refine ak_regionS (.cons rfl (ok_fieldV (dlt rfl rfl) rfl fo49_0 ty3 (by decide) rfl) (.cons rfl (ok_loadV (dlt rfl rfl) rfl ty3 rfl rfl rfl) (.cons rfl (ok_neq (dlt rfl rfl) rfl rfl rfl) (.cons rfl (ok_move (dlt rfl rfl) rfl rfl) (.consG (pre := []) (dlt rfl rfl) rfl rfl rfl rfl .nil (fun he => ok_fieldV (dlt rfl rfl) rfl fo49_7 ty3 (by decide) rfl) (.consG (pre := [(29, .ref 3 7)]) (dlt rfl rfl) rfl rfl rfl rfl (.cons rfl (fun he => he) .nil) (fun he => ok_loadV (dlt rfl rfl) rfl ty3 rfl rfl rfl) (.consG (pre := [(30, .int .i64 a0.stride)]) (dlt rfl rfl) rfl rfl rfl rfl (.cons rfl (fun he => he) .nil) (fun he => ok_eql (dlt rfl rfl) rfl rfl rfl) (.cons rfl (ok_orW (dlt rfl rfl) rfl rfl rfl (fun h => (bnot_t h))) (.nil ?_)))))))))
    refine ak_cond rfl (fun ht => ?_) (fun ht => ?_)
    ·have h := cond_t ht h
     refine ak_seq ?_
     refine ak_regionS (.cons rfl (ok_assign (dlt rfl rfl) rfl rfl) (.nil ?_))
     obtain rfl := Option.some.inj h
     refine ak_conv (Γ' := [(6, .bool false)]) (σ' := []) (.cons rfl (.refl _) (.nil _)) (.nil _) ?_
     exact ak_ret (fn := Tryz.f128) Tryz.func128 rfl trivial rfl
    ·have h := cond_f ht h
     refine ak_skip ?_
     refine ak_seq ?_
     obtain ⟨v2, hv2, h⟩ := bind_of h
     refine ak_regionS (.cons rfl (ok_loadVT (dlt rfl rfl) rfl ty49 rfl rfl (by decide) rfl) (.cons rfl (ok_move (dlt rfl rfl) rfl rfl) (.cons rfl (ok_call (xs := [.agg [.int .i64 a0.kind, .str a0.name, .int .i64 a0.index, .int .i64 a0.start, .int .i64 a0.stop, .bool a0.hasStart, .bool a0.hasEnd, .int .i64 a0.stride], .int .i64 a2]) (caps := []) (dlt rfl rfl) rfl rfl Tryz.func180 rfl rfl rfl (d180 hv2) rfl) (.cons rfl (ok_move (dlt rfl rfl) rfl rfl) (.cons rfl (ok_extract (dlt rfl rfl) rfl rfl rfl) (.cons rfl (ok_extract (dlt rfl rfl) rfl rfl rfl) (.cons rfl (ok_assign (dlt rfl rfl) rfl rfl) (.cons rfl (ok_assign (dlt rfl rfl) rfl rfl) (.nil ?_)))))))))
     refine ak_seq ?_
     refine ak_seq ?_
     refine ak_regionS (.cons rfl (ok_fieldV (dlt rfl rfl) rfl fo49_7 ty3 (by decide) rfl) (.cons rfl (ok_loadV (dlt rfl rfl) rfl ty3 rfl rfl rfl) (.cons rfl (ok_gtr (dlt rfl rfl) rfl rfl rfl) (.nil ?_))))
     refine ak_cond rfl (fun ht => ?_) (fun ht => ?_)
     ·have h := cond_t ht h
      refine ak_seq ?_
      obtain ⟨v3, hv3, h⟩ := bind_of h
      refine ak_regionS (.cons rfl (ok_move (dlt rfl rfl) rfl rfl) (.cons rfl (ok_move (dlt rfl rfl) rfl rfl) (.cons rfl (ok_geq (dlt rfl rfl) rfl rfl rfl) (.cons rfl (ok_move (dlt rfl rfl) rfl rfl) (.consG (pre := []) (dlt rfl rfl) rfl rfl rfl rfl .nil (fun he => ok_move (dlt rfl rfl) rfl rfl) (.consG (pre := []) (dlt rfl rfl) rfl rfl rfl rfl .nil (fun he => ok_move (dlt rfl rfl) rfl rfl) (.consG (pre := [(46, .int .i64 a1), (47, .int .i64 v2.2)]) (dlt rfl rfl) rfl rfl rfl rfl (.cons rfl (fun he => he) (.cons rfl (fun he => he) .nil)) (fun he => ok_lss (dlt rfl rfl) rfl rfl rfl) (.cons rfl (ok_andW (dlt rfl rfl) rfl rfl rfl (fun h => h)) (.cons rfl (ok_move (dlt rfl rfl) rfl rfl) (.consG (pre := []) (dlt rfl rfl) rfl rfl rfl rfl .nil (fun he => ok_move (dlt rfl rfl) rfl rfl) (.consG (pre := []) (dlt rfl rfl) rfl rfl rfl rfl .nil (fun he => ok_move (dlt rfl rfl) rfl rfl) (.consG (pre := [(51, .int .i64 a1), (52, .int .i64 v2.1)]) (dlt rfl rfl) rfl rfl rfl rfl (.cons rfl (fun he => he) (.cons rfl (fun he => he) .nil)) (fun he => ok_sub (dlt rfl rfl) rfl rfl rfl) (.consG (pre := []) (dlt rfl rfl) rfl rfl rfl rfl .nil (fun he => ok_fieldV (dlt rfl rfl) rfl fo49_7 ty3 (by decide) rfl) (.consG (pre := [(54, .ref 3 7)]) (dlt rfl rfl) rfl rfl rfl rfl (.cons rfl (fun he => he) .nil) (fun he => ok_loadV (dlt rfl rfl) rfl ty3 rfl rfl rfl) (.consG (pre := [(53, .int .i64 (IntKind.wrap .i64 (a1 - v2.1))), (55, .int .i64 a0.stride)]) (dlt rfl rfl) rfl rfl rfl rfl (.cons rfl (fun he => he) (.cons rfl (fun he => he) .nil)) (fun he => ok_rem (dlt rfl rfl) rfl rfl rfl (need_of (gd_t hv3 he))) (.consG (pre := [(56, .int .i64 ((IntKind.wrap .i64 (a1 - v2.1)).tmod a0.stride))]) (dlt rfl rfl) rfl rfl rfl rfl (.cons rfl (fun he => he) .nil) (fun he => ok_eql (dlt rfl rfl) rfl rfl rfl) (.cons rfl (ok_andW (dlt rfl rfl) rfl rfl rfl (fun h => h)) (.cons rfl (ok_assign (dlt rfl rfl) rfl rfl) (.nil ?_)))))))))))))))))))
      obtain rfl := Option.some.inj h
      refine ak_conv (Γ' := [(6, .bool (((decide (v2.1 ≤ a1)) && (decide (a1 < v2.2))) && (((IntKind.wrap .i64 (a1 - v2.1)).tmod a0.stride) == (0 : Int))))]) (σ' := []) (.cons rfl (.refl _) (.nil _)) (.nil _) ?_
      exact ak_ret (fn := Tryz.f128) Tryz.func128 rfl trivial rfl
     ·have h := cond_f ht h
      refine ak_skip ?_
      refine ak_seq ?_
      obtain ⟨v4, hv4, h⟩ := bind_of h
      refine ak_regionS (.cons rfl (ok_move (dlt rfl rfl) rfl rfl) (.cons rfl (ok_move (dlt rfl rfl) rfl rfl) (.cons rfl (ok_gtr (dlt rfl rfl) rfl rfl rfl) (.cons rfl (ok_move (dlt rfl rfl) rfl rfl) (.consG (pre := []) (dlt rfl rfl) rfl rfl rfl rfl .nil (fun he => ok_move (dlt rfl rfl) rfl rfl) (.consG (pre := []) (dlt rfl rfl) rfl rfl rfl rfl .nil (fun he => ok_move (dlt rfl rfl) rfl rfl) (.consG (pre := [(63, .int .i64 a1), (64, .int .i64 v2.2)]) (dlt rfl rfl) rfl rfl rfl rfl (.cons rfl (fun he => he) (.cons rfl (fun he => he) .nil)) (fun he => ok_leq (dlt rfl rfl) rfl rfl rfl) (.cons rfl (ok_andW (dlt rfl rfl) rfl rfl rfl (fun h => h)) (.cons rfl (ok_move (dlt rfl rfl) rfl rfl) (.consG (pre := []) (dlt rfl rfl) rfl rfl rfl rfl .nil (fun he => ok_move (dlt rfl rfl) rfl rfl) (.consG (pre := []) (dlt rfl rfl) rfl rfl rfl rfl .nil (fun he => ok_move (dlt rfl rfl) rfl rfl) (.consG (pre := [(68, .int .i64 v2.2), (69, .int .i64 a1)]) (dlt rfl rfl) rfl rfl rfl rfl (.cons rfl (fun he => he) (.cons rfl (fun he => he) .nil)) (fun he => ok_sub (dlt rfl rfl) rfl rfl rfl) (.consG (pre := []) (dlt rfl rfl) rfl rfl rfl rfl .nil (fun he => ok_fieldV (dlt rfl rfl) rfl fo49_7 ty3 (by decide) rfl) (.consG (pre := [(71, .ref 3 7)]) (dlt rfl rfl) rfl rfl rfl rfl (.cons rfl (fun he => he) .nil) (fun he => ok_loadV (dlt rfl rfl) rfl ty3 rfl rfl rfl) (.consG (pre := [(72, .int .i64 a0.stride)]) (dlt rfl rfl) rfl rfl rfl rfl (.cons rfl (fun he => he) .nil) (fun he => ok_sub (dlt rfl rfl) rfl rfl rfl) (.consG (pre := [(70, .int .i64 (IntKind.wrap .i64 (v2.2 - a1))), (73, .int .i64 (IntKind.wrap .i64 ((0 : Int) - a0.stride)))]) (dlt rfl rfl) rfl rfl rfl rfl (.cons rfl (fun he => he) (.cons rfl (fun he => he) .nil)) (fun he => ok_rem (dlt rfl rfl) rfl rfl rfl (need_of (gd_t hv4 he))) (.consG (pre := [(74, .int .i64 ((IntKind.wrap .i64 (v2.2 - a1)).tmod (IntKind.wrap .i64 ((0 : Int) - a0.stride))))]) (dlt rfl rfl) rfl rfl rfl rfl (.cons rfl (fun he => he) .nil) (fun he => ok_eql (dlt rfl rfl) rfl rfl rfl) (.cons rfl (ok_andW (dlt rfl rfl) rfl rfl rfl (fun h => h)) (.cons rfl (ok_assign (dlt rfl rfl) rfl rfl) (.nil ?_))))))))))))))))))))
      obtain rfl := Option.some.inj h
      refine ak_conv (Γ' := [(6, .bool (((decide (v2.1 < a1)) && (decide (a1 ≤ v2.2))) && (((IntKind.wrap .i64 (v2.2 - a1)).tmod (IntKind.wrap .i64 ((0 : Int) - a0.stride))) == (0 : Int))))]) (σ' := []) (.cons rfl (.refl _) (.nil _)) (.nil _) ?_
      exact ak_ret (fn := Tryz.f128) Tryz.func128 rfl trivial rfl)
theorem d128 {a0 : ApiSelector} {a1 : Int} {a2 : Int} {r : Bool} (h : f128 (.e128 a0 a1 a2) = some r) : Does Tryz.prog GG 128 [.agg [.int .i64 a0.kind, .str a0.name, .int .i64 a0.index, .int .i64 a0.start, .int .i64 a0.stop, .bool a0.hasStart, .bool a0.hasEnd, .int .i64 a0.stride], .int .i64 a1, .int .i64 a2] [] (fun z _ => z = .bool r) := fn_of (fn := Tryz.f128) Tryz.func128 rfl Tryz.ntmps128 rfl (w128 _ _ h)
end Go.Proofs.YtonlbdholdaifaaGreatDoor
end
