import Derived.Test.YtonlbdholdaifaaGreatDoorProg
import Derived.Test.YtonlbdholdaifaaGreatDoorRfp4
import Derived.Test.YtonlbdholdaifaaGreatDoorRg6p1
import Derived.Test.YtonlbdholdaifaaGreatDoorRg6p9
import Derived.Test.YtonlbdholdaifaaGreatDoorRg6p5
import Derived.Test.YtonlbdholdaifaaGreatDoorRg6p8
section
set_option linter.unusedVariables false
set_option linter.unusedSimpArgs false
set_option maxRecDepth 10000
namespace Go.Proofs.YtonlbdholdaifaaGreatDoor
open Go Go.Rf Go.Proofs
/-- riffle/riffleref17.least -/
noncomputable abbrev b140 : Code := codeOf Tryz.f140
inductive L140 where
 | e140 (a0 : Int) (a1 : Int)
noncomputable def f140 : L140 → Option Int
 | .e140 a0 a1 =>
  if ((a0 == (-1)) || ((a1 != (-1)) && (decide (a1 < a0)))) = true then
   some a1
  else
   some a0
def M140 : L140 → Int → Prop
 | .e140 a0 a1, r => ∀ (w : World) (F : Nat → Prop) (ρ : Rho), AK Tryz.prog (ctx GG 18 w F ρ []) 140 [.code b140] (argE 0 [.int .i64 a0, .int .i64 a1]) [] (fun z _ => z = .int .i64 r)
theorem w140 : ∀ (l : L140) (r : Int), f140 l = some r → M140 l r := (by
 intro l r h
 cases l with
 | e140 a0 a1 =>
  intro w F ρ
  dsimp only [f140] at h
  refine ak_seq ?_
  refine ak_regionS (.cons rfl (ok_assign (dlt rfl rfl) rfl rfl) (.nil ?_))
  refine ak_seq ?_
  refine ak_seq ?_
  refine ak_regionS (.cons rfl (ok_move (dlt rfl rfl) rfl rfl) (.cons rfl (ok_eql (dlt rfl rfl) rfl rfl rfl) (.cons rfl (ok_move (dlt rfl rfl) rfl rfl) (.consG (pre := []) (dlt rfl rfl) rfl rfl rfl rfl .nil (fun he => ok_move (dlt rfl rfl) rfl rfl) (.consG (pre := [(8, .int .i64 a1)]) (dlt rfl rfl) rfl rfl rfl rfl (.cons rfl (fun he => he) .nil) (fun he => ok_neq (dlt rfl rfl) rfl rfl rfl) (.consG (pre := [(9, .bool (a1 != (-1)))]) (dlt rfl rfl) rfl rfl rfl rfl (.cons rfl (fun he => he) .nil) (fun he => ok_move (dlt rfl rfl) rfl rfl) (.consG (pre := []) (dlt rfl rfl) rfl rfl rfl rfl .nil (fun he => ok_move (dlt rfl rfl) rfl rfl) (.consG (pre := []) (dlt rfl rfl) rfl rfl rfl rfl .nil (fun he => ok_move (dlt rfl rfl) rfl rfl) (.consG (pre := [(11, .int .i64 a1), (12, .int .i64 a0)]) (dlt rfl rfl) rfl rfl rfl rfl (.cons rfl (fun he => he) (.cons rfl (fun he => he) .nil)) (fun he => ok_lss (dlt rfl rfl) rfl rfl rfl) (.consG (pre := [(10, .bool (a1 != (-1)))]) (dlt rfl rfl) rfl rfl rfl rfl (.cons rfl (fun he => he) .nil) (fun he => ok_andW (dlt rfl rfl) rfl rfl rfl (fun h => band_i he h)) (.cons rfl (ok_orW (dlt rfl rfl) rfl rfl rfl (fun h => (bnot_t h))) (.nil ?_))))))))))))
  refine ak_cond rfl (fun ht => ?_) (fun ht => ?_)
  ·have h := cond_t ht h
   refine ak_seq ?_
   refine ak_regionS (.cons rfl (ok_move (dlt rfl rfl) rfl rfl) (.cons rfl (ok_assign (dlt rfl rfl) rfl rfl) (.nil ?_)))
   obtain rfl := Option.some.inj h
   refine ak_conv (Γ' := [(4, .int .i64 a1)]) (σ' := []) (.cons rfl (.refl _) (.nil _)) (.nil _) ?_
   exact ak_ret (fn := Tryz.f140) Tryz.func140 rfl trivial rfl
  ·have h := cond_f ht h
   refine ak_skip ?_
   refine ak_seq ?_
   refine ak_regionS (.cons rfl (ok_move (dlt rfl rfl) rfl rfl) (.cons rfl (ok_assign (dlt rfl rfl) rfl rfl) (.nil ?_)))
   obtain rfl := Option.some.inj h
   refine ak_conv (Γ' := [(4, .int .i64 a0)]) (σ' := []) (.cons rfl (.refl _) (.nil _)) (.nil _) ?_
   exact ak_ret (fn := Tryz.f140) Tryz.func140 rfl trivial rfl)
theorem d140 {a0 : Int} {a1 : Int} {r : Int} (h : f140 (.e140 a0 a1) = some r) : Does Tryz.prog GG 140 [.int .i64 a0, .int .i64 a1] [] (fun z _ => z = .int .i64 r) := fn_of (fn := Tryz.f140) Tryz.func140 rfl Tryz.ntmps140 rfl (w140 _ _ h)
/-- riffle/riffleref17.by -/
noncomputable abbrev b87 : Code := codeOf Tryz.f87
inductive L87 where
 | e87 (a0 : ApiValue) (a1 : Int) (a2 : ApiSelector) (a3 : Ref17Fate)
noncomputable def f87 : L87 → Option Ref17Fate
 | .e87 a0 a1 a2 a3 =>
  gd (a0.kind == (4 : Int)) (f141 (.e141 a2)) >>= fun v1 =>
  f76 (.e76 a0 a1 a2) >>= fun v2 =>
  if ((!a3.may) || ((!((a0.kind == (4 : Int)) && v1)) && (!v2))) = true then
   some (⟨false, (-1), (-1)⟩ : Ref17Fate)
  else
   if (!((a0.kind == (4 : Int)) && v1)) = true then
    some a3
   else
    if (a0.to == (0 : Int)) = true then
     some (⟨true, (-1), a3.fails⟩ : Ref17Fate)
    else
     if v2 = true then
      f103 (.e103 a3.holds a0.to) >>= fun v3 =>
      some (⟨true, v3, a3.fails⟩ : Ref17Fate)
     else
      f140 (.e140 a3.fails a0.to) >>= fun v4 =>
      some (⟨true, (-1), v4⟩ : Ref17Fate)
def M87 : L87 → Ref17Fate → Prop
 | .e87 a0 a1 a2 a3, r => ∀ (w : World) (F : Nat → Prop) (ρ : Rho), AK Tryz.prog (ctx GG 58 w F ρ []) 87 [.code b87] (argE 0 [.agg [.int .i64 a0.kind, .int .i64 a0.frm, .int .i64 a0.to, .str a0.text, .sl Ty.sApiValue a0.items, .sl Ty.str a0.names], .int .i64 a1, .agg [.int .i64 a2.kind, .str a2.name, .int .i64 a2.index, .int .i64 a2.start, .int .i64 a2.stop, .bool a2.hasStart, .bool a2.hasEnd, .int .i64 a2.stride], .agg [.bool a3.may, .int .i64 a3.holds, .int .i64 a3.fails]]) [] (fun z _ => z = .agg [.bool r.may, .int .i64 r.holds, .int .i64 r.fails])
theorem w87 : ∀ (l : L87) (r : Ref17Fate), f87 l = some r → M87 l r := (by
 intro l r h
 cases l with
 | e87 a0 a1 a2 a3 =>
  intro w F ρ
  dsimp only [f87] at h
  refine ak_seq ?_
  refine ak_regionS (.cons rfl (ok_box (d := 4) (dlt rfl rfl) rfl rfl rfl rfl rfl) (.cons rfl (ok_box (d := 6) (dlt rfl rfl) rfl rfl rfl rfl rfl) (.cons rfl (ok_box (d := 7) (dlt rfl rfl) rfl rfl rfl rfl rfl) (.cons rfl (ok_alloc (d := 8) (dlt rfl rfl) rfl ty66 rfl rfl rfl) (.nil ?_)))))
  refine ak_seq ?_
  obtain ⟨v1, hv1, h⟩ := bind_of h
  refine ak_regionS (.cons rfl (ok_fieldV (dlt rfl rfl) rfl fo29_0 ty3 (by decide) rfl) (.cons rfl (ok_loadV (dlt rfl rfl) rfl ty3 rfl rfl rfl) (.cons rfl (ok_eql (dlt rfl rfl) rfl rfl rfl) (.cons rfl (ok_move (dlt rfl rfl) rfl rfl) (.consG (pre := []) (dlt rfl rfl) rfl rfl rfl rfl .nil (fun he => ok_loadVT (dlt rfl rfl) rfl ty49 rfl rfl (by decide) rfl) (.consG (pre := [(15, .agg [.int .i64 a2.kind, .str a2.name, .int .i64 a2.index, .int .i64 a2.start, .int .i64 a2.stop, .bool a2.hasStart, .bool a2.hasEnd, .int .i64 a2.stride])]) (dlt rfl rfl) rfl rfl rfl rfl (.cons rfl (fun he => he) .nil) (fun he => ok_call (xs := [.agg [.int .i64 a2.kind, .str a2.name, .int .i64 a2.index, .int .i64 a2.start, .int .i64 a2.stop, .bool a2.hasStart, .bool a2.hasEnd, .int .i64 a2.stride]]) (caps := []) (dlt rfl rfl) rfl rfl Tryz.func141 rfl rfl rfl (d141 (gd_t hv1 he)) rfl) (.cons rfl (ok_andW (dlt rfl rfl) rfl rfl rfl (fun h => h)) (.cons rfl (ok_assign (dlt rfl rfl) rfl rfl) (.nil ?_)))))))))
  refine ak_seq ?_
  obtain ⟨v2, hv2, h⟩ := bind_of h
  refine ak_regionS (.cons rfl (ok_loadVT (dlt rfl rfl) rfl ty29 rfl rfl (by decide) rfl) (.cons rfl (ok_move (dlt rfl rfl) rfl rfl) (.cons rfl (ok_loadVT (dlt rfl rfl) rfl ty49 rfl rfl (by decide) rfl) (.cons rfl (ok_call (xs := [.agg [.int .i64 a0.kind, .int .i64 a0.frm, .int .i64 a0.to, .str a0.text, .sl Ty.sApiValue a0.items, .sl Ty.str a0.names], .int .i64 a1, .agg [.int .i64 a2.kind, .str a2.name, .int .i64 a2.index, .int .i64 a2.start, .int .i64 a2.stop, .bool a2.hasStart, .bool a2.hasEnd, .int .i64 a2.stride]]) (caps := []) (dlt rfl rfl) rfl rfl Tryz.func76 rfl rfl rfl (d76 hv2) rfl) (.cons rfl (ok_assign (dlt rfl rfl) rfl rfl) (.nil ?_))))))
  refine ak_seq ?_
  refine ak_seq ?_
  refine ak_regionS (.cons rfl (ok_fieldV (dlt rfl rfl) rfl fo66_0 ty4 (by decide) rfl) (.cons rfl (ok_loadV (dlt rfl rfl) rfl ty4 rfl rfl rfl) (.cons rfl (ok_not (dlt rfl rfl) rfl rfl) (.cons rfl (ok_move (dlt rfl rfl) rfl rfl) (.consG (pre := []) (dlt rfl rfl) rfl rfl rfl rfl .nil (fun he => ok_move (dlt rfl rfl) rfl rfl) (.consG (pre := [(26, .bool ((a0.kind == (4 : Int)) && v1))]) (dlt rfl rfl) rfl rfl rfl rfl (.cons rfl (fun he => he) .nil) (fun he => ok_not (dlt rfl rfl) rfl rfl) (.consG (pre := [(27, .bool (!((a0.kind == (4 : Int)) && v1)))]) (dlt rfl rfl) rfl rfl rfl rfl (.cons rfl (fun he => he) .nil) (fun he => ok_move (dlt rfl rfl) rfl rfl) (.consG (pre := []) (dlt rfl rfl) rfl rfl rfl rfl .nil (fun he => ok_move (dlt rfl rfl) rfl rfl) (.consG (pre := [(29, .bool v2)]) (dlt rfl rfl) rfl rfl rfl rfl (.cons rfl (fun he => he) .nil) (fun he => ok_not (dlt rfl rfl) rfl rfl) (.consG (pre := [(28, .bool (!((a0.kind == (4 : Int)) && v1)))]) (dlt rfl rfl) rfl rfl rfl rfl (.cons rfl (fun he => he) .nil) (fun he => ok_andW (dlt rfl rfl) rfl rfl rfl (fun h => band_i he h)) (.cons rfl (ok_orW (dlt rfl rfl) rfl rfl rfl (fun h => (bnot_t h))) (.nil ?_))))))))))))
  refine ak_cond rfl (fun ht => ?_) (fun ht => ?_)
  ·have h := cond_t ht h
   refine ak_seq ?_
   refine ak_regionS (.cons rfl (ok_build (dlt rfl rfl) rfl ty66 rfl pl66 rfl rfl rfl) (.cons rfl (ok_storeV rfl rfl ty66 rfl rfl rfl rfl (by decide) rfl rfl) (.nil ?_)))
   obtain rfl := Option.some.inj h
   refine ak_conv (Γ' := [(8, .ref 8 0)]) (σ' := [(8, .cells 66 [.bool ((⟨false, (-1), (-1)⟩ : Ref17Fate).may), .int .i64 ((⟨false, (-1), (-1)⟩ : Ref17Fate).holds), .int .i64 ((⟨false, (-1), (-1)⟩ : Ref17Fate).fails)])]) (.cons rfl (.refl _) (.nil _)) (.cons rfl (.refl _) (.nil _)) ?_
   exact ak_ret (fn := Tryz.f87) Tryz.func87 rfl ⟨⟨_, _, _, _, _, _, rfl, rfl, ty66⟩, trivial⟩ rfl
  ·have h := cond_f ht h
   refine ak_skip ?_
   refine ak_seq ?_
   refine ak_seq ?_
   refine ak_regionS (.cons rfl (ok_move (dlt rfl rfl) rfl rfl) (.cons rfl (ok_not (dlt rfl rfl) rfl rfl) (.nil ?_)))
   refine ak_cond rfl (fun ht => ?_) (fun ht => ?_)
   ·have h := cond_t ht h
    refine ak_seq ?_
    refine ak_regionS (.cons rfl (ok_loadVT (dlt rfl rfl) rfl ty66 rfl rfl (by decide) rfl) (.cons rfl (ok_storeV rfl rfl ty66 rfl rfl rfl rfl (by decide) rfl rfl) (.nil ?_)))
    obtain rfl := Option.some.inj h
    refine ak_conv (Γ' := [(8, .ref 8 0)]) (σ' := [(8, .cells 66 [.bool a3.may, .int .i64 a3.holds, .int .i64 a3.fails])]) (.cons rfl (.refl _) (.nil _)) (.cons rfl (.refl _) (.nil _)) ?_
    exact ak_ret (fn := Tryz.f87) Tryz.func87 rfl ⟨⟨_, _, _, _, _, _, rfl, rfl, ty66⟩, trivial⟩ rfl
   ·have h := cond_f ht h
    refine ak_skip ?_
    refine ak_seq ?_
    refine ak_seq ?_
    refine ak_regionS (.cons rfl (ok_fieldV (dlt rfl rfl) rfl fo29_2 ty3 (by decide) rfl) (.cons rfl (ok_loadV (dlt rfl rfl) rfl ty3 rfl rfl rfl) (.cons rfl (ok_eql (dlt rfl rfl) rfl rfl rfl) (.nil ?_))))
    refine ak_cond rfl (fun ht => ?_) (fun ht => ?_)
    ·have h := cond_t ht h
     refine ak_seq ?_
     refine ak_regionS (.cons rfl (ok_fieldV (dlt rfl rfl) rfl fo66_2 ty3 (by decide) rfl) (.cons rfl (ok_loadV (dlt rfl rfl) rfl ty3 rfl rfl rfl) (.cons rfl (ok_build (dlt rfl rfl) rfl ty66 rfl pl66 rfl rfl rfl) (.cons rfl (ok_storeV rfl rfl ty66 rfl rfl rfl rfl (by decide) rfl rfl) (.nil ?_)))))
     obtain rfl := Option.some.inj h
     refine ak_conv (Γ' := [(8, .ref 8 0)]) (σ' := [(8, .cells 66 [.bool ((⟨true, (-1), a3.fails⟩ : Ref17Fate).may), .int .i64 ((⟨true, (-1), a3.fails⟩ : Ref17Fate).holds), .int .i64 ((⟨true, (-1), a3.fails⟩ : Ref17Fate).fails)])]) (.cons rfl (.refl _) (.nil _)) (.cons rfl (.refl _) (.nil _)) ?_
     exact ak_ret (fn := Tryz.f87) Tryz.func87 rfl ⟨⟨_, _, _, _, _, _, rfl, rfl, ty66⟩, trivial⟩ rfl
    ·have h := cond_f ht h
     refine ak_skip ?_
     refine ak_seq ?_
     refine ak_seq ?_
     refine ak_regionS (.cons rfl (ok_move (dlt rfl rfl) rfl rfl) (.nil ?_))
     refine ak_cond rfl (fun ht => ?_) (fun ht => ?_)
     ·have h := cond_t ht h
      refine ak_seq ?_
      obtain ⟨v3, hv3, h⟩ := bind_of h
      refine ak_drawL [⟨some 44, [(7, .ref 7 0)], none, true, .ref 7 1, [], []⟩,
  ⟨some 45, [(44, .ref 7 1)], none, true, .int .i64 a3.holds, [(7, .cells 66 [.bool a3.may, .int .i64 a3.holds, .int .i64 a3.fails])], []⟩,
  ⟨some 46, [(4, .ref 4 0)], none, true, .ref 4 2, [], []⟩,
  ⟨some 47, [(46, .ref 4 2)], none, true, .int .i64 a0.to, [(4, .cells 29 [.int .i64 a0.kind, .int .i64 a0.frm, .int .i64 a0.to, .str a0.text, .sl Ty.sApiValue a0.items, .sl Ty.str a0.names])], []⟩,
  ⟨some 48, [(45, .int .i64 a3.holds), (47, .int .i64 a0.to)], none, true, .int .i64 v3, [], []⟩,
  ⟨some 49, [(7, .ref 7 0)], none, true, .ref 7 2, [], []⟩,
  ⟨some 50, [(49, .ref 7 2)], none, true, .int .i64 a3.fails, [(7, .cells 66 [.bool a3.may, .int .i64 a3.holds, .int .i64 a3.fails])], []⟩,
  ⟨some 51, [(48, .int .i64 v3), (50, .int .i64 a3.fails)], none, true, .agg [.bool true, .int .i64 v3, .int .i64 a3.fails], [], []⟩,
  ⟨none, [(8, .ref 8 0), (51, .agg [.bool true, .int .i64 v3, .int .i64 a3.fails])], none, true, .undef, [(8, .cells 66 [.bool false, .int .i64 (0 : Int), .int .i64 (0 : Int)])], [(8, .cells 66 [.bool true, .int .i64 v3, .int .i64 a3.fails])]⟩] [[], [0], [], [2], [0, 1, 2, 3], [], [5], [0, 1, 2, 3, 4, 5, 6], [0, 1, 2, 3, 4, 5, 6, 7]] (by kernel_rfl) (by kernel_rfl) (.cons (qok (dlt rfl rfl) rfl (.same rfl .nil) (NeedQ.all .nil) (fun Γx σx => ok_fieldV (dlt rfl rfl) rfl fo66_1 ty3 (by decide) rfl)) (.cons (qok (dlt rfl rfl) rfl (.same rfl .nil) (NeedQ.all (.cons rfl .nil)) (fun Γx σx => ok_loadV (dlt rfl rfl) rfl ty3 rfl rfl rfl)) (.cons (qok (dlt rfl rfl) rfl (.same rfl .nil) (NeedQ.all .nil) (fun Γx σx => ok_fieldV (dlt rfl rfl) rfl fo29_2 ty3 (by decide) rfl)) (.cons (qok (dlt rfl rfl) rfl (.same rfl .nil) (NeedQ.all (.cons rfl .nil)) (fun Γx σx => ok_loadV (dlt rfl rfl) rfl ty3 rfl rfl rfl)) (.cons (qok (dlt rfl rfl) rfl (.same rfl (.same rfl .nil)) (NeedQ.all .nil) (fun Γx σx => ok_call (xs := [.int .i64 a3.holds, .int .i64 a0.to]) (caps := []) (dlt rfl rfl) rfl rfl Tryz.func103 rfl rfl rfl (d103 hv3) rfl)) (.cons (qok (dlt rfl rfl) rfl (.same rfl .nil) (NeedQ.all .nil) (fun Γx σx => ok_fieldV (dlt rfl rfl) rfl fo66_2 ty3 (by decide) rfl)) (.cons (qok (dlt rfl rfl) rfl (.same rfl .nil) (NeedQ.all (.cons rfl .nil)) (fun Γx σx => ok_loadV (dlt rfl rfl) rfl ty3 rfl rfl rfl)) (.cons (qok (dlt rfl rfl) rfl (.same rfl (.same rfl .nil)) (NeedQ.all .nil) (fun Γx σx => ok_build (dlt rfl rfl) rfl ty66 rfl pl66 rfl rfl rfl)) (.cons (qokN (nodst rfl) rfl (.same rfl (.same rfl .nil)) (NeedQ.all (.cons rfl .nil)) (fresh0 rfl) (fun Γx σx hfr => ok_storeV rfl rfl ty66 rfl rfl rfl rfl (by decide) rfl rfl)) (.nil _ _)))))))))) (.nil ?_)
      obtain rfl := Option.some.inj h
      refine ak_conv (Γ' := [(8, .ref 8 0)]) (σ' := [(8, .cells 66 [.bool ((⟨true, v3, a3.fails⟩ : Ref17Fate).may), .int .i64 ((⟨true, v3, a3.fails⟩ : Ref17Fate).holds), .int .i64 ((⟨true, v3, a3.fails⟩ : Ref17Fate).fails)])]) (.cons rfl (.refl _) (.nil _)) (.cons rfl (.refl _) (.nil _)) ?_
      exact ak_ret (fn := Tryz.f87) Tryz.func87 rfl ⟨⟨_, _, _, _, _, _, rfl, rfl, ty66⟩, trivial⟩ rfl
     ·have h := cond_f ht h
      refine ak_skip ?_
      refine ak_seq ?_
      obtain ⟨v4, hv4, h⟩ := bind_of h
      refine ak_regionS (.cons rfl (ok_fieldV (dlt rfl rfl) rfl fo66_2 ty3 (by decide) rfl) (.cons rfl (ok_loadV (dlt rfl rfl) rfl ty3 rfl rfl rfl) (.cons rfl (ok_fieldV (dlt rfl rfl) rfl fo29_2 ty3 (by decide) rfl) (.cons rfl (ok_loadV (dlt rfl rfl) rfl ty3 rfl rfl rfl) (.cons rfl (ok_call (xs := [.int .i64 a3.fails, .int .i64 a0.to]) (caps := []) (dlt rfl rfl) rfl rfl Tryz.func140 rfl rfl rfl (d140 hv4) rfl) (.cons rfl (ok_build (dlt rfl rfl) rfl ty66 rfl pl66 rfl rfl rfl) (.cons rfl (ok_storeV rfl rfl ty66 rfl rfl rfl rfl (by decide) rfl rfl) (.nil ?_))))))))
      obtain rfl := Option.some.inj h
      refine ak_conv (Γ' := [(8, .ref 8 0)]) (σ' := [(8, .cells 66 [.bool ((⟨true, (-1), v4⟩ : Ref17Fate).may), .int .i64 ((⟨true, (-1), v4⟩ : Ref17Fate).holds), .int .i64 ((⟨true, (-1), v4⟩ : Ref17Fate).fails)])]) (.cons rfl (.refl _) (.nil _)) (.cons rfl (.refl _) (.nil _)) ?_
      exact ak_ret (fn := Tryz.f87) Tryz.func87 rfl ⟨⟨_, _, _, _, _, _, rfl, rfl, ty66⟩, trivial⟩ rfl)
theorem d87 {a0 : ApiValue} {a1 : Int} {a2 : ApiSelector} {a3 : Ref17Fate} {r : Ref17Fate} (h : f87 (.e87 a0 a1 a2 a3) = some r) : Does Tryz.prog GG 87 [.agg [.int .i64 a0.kind, .int .i64 a0.frm, .int .i64 a0.to, .str a0.text, .sl Ty.sApiValue a0.items, .sl Ty.str a0.names], .int .i64 a1, .agg [.int .i64 a2.kind, .str a2.name, .int .i64 a2.index, .int .i64 a2.start, .int .i64 a2.stop, .bool a2.hasStart, .bool a2.hasEnd, .int .i64 a2.stride], .agg [.bool a3.may, .int .i64 a3.holds, .int .i64 a3.fails]] [] (fun z _ => z = .agg [.bool r.may, .int .i64 r.holds, .int .i64 r.fails]) := fn_of (fn := Tryz.f87) Tryz.func87 rfl Tryz.ntmps87 rfl (w87 _ _ h)
/-- riffle/riffleref17.or -/
noncomputable abbrev b86 : Code := codeOf Tryz.f86
inductive L86 where
 | e86 (a0 : Ref17Fate) (a1 : Ref17Fate)
noncomputable def f86 : L86 → Option Ref17Fate
 | .e86 a0 a1 =>
  if (!a0.may) = true then
   some a1
  else
   if (!a1.may) = true then
    some a0
   else
    f140 (.e140 a0.holds a1.holds) >>= fun v1 =>
    f103 (.e103 a0.fails a1.fails) >>= fun v2 =>
    some (⟨true, v1, v2⟩ : Ref17Fate)
def M86 : L86 → Ref17Fate → Prop
 | .e86 a0 a1, r => ∀ (w : World) (F : Nat → Prop) (ρ : Rho), AK Tryz.prog (ctx GG 24 w F ρ []) 86 [.code b86] (argE 0 [.agg [.bool a0.may, .int .i64 a0.holds, .int .i64 a0.fails], .agg [.bool a1.may, .int .i64 a1.holds, .int .i64 a1.fails]]) [] (fun z _ => z = .agg [.bool r.may, .int .i64 r.holds, .int .i64 r.fails])
theorem w86 : ∀ (l : L86) (r : Ref17Fate), f86 l = some r → M86 l r := (by
 intro l r h
 cases l with
 | e86 a0 a1 =>
  intro w F ρ
  dsimp only [f86] at h
  refine ak_seq ?_
  refine ak_regionS (.cons rfl (ok_box (d := 2) (dlt rfl rfl) rfl rfl rfl rfl rfl) (.cons rfl (ok_box (d := 3) (dlt rfl rfl) rfl rfl rfl rfl rfl) (.cons rfl (ok_alloc (d := 4) (dlt rfl rfl) rfl ty66 rfl rfl rfl) (.nil ?_))))
  refine ak_seq ?_
  refine ak_seq ?_
  refine ak_regionS (.cons rfl (ok_fieldV (dlt rfl rfl) rfl fo66_0 ty4 (by decide) rfl) (.cons rfl (ok_loadV (dlt rfl rfl) rfl ty4 rfl rfl rfl) (.cons rfl (ok_not (dlt rfl rfl) rfl rfl) (.nil ?_))))
  refine ak_cond rfl (fun ht => ?_) (fun ht => ?_)
  ·have h := cond_t ht h
   refine ak_seq ?_
   refine ak_regionS (.cons rfl (ok_loadVT (dlt rfl rfl) rfl ty66 rfl rfl (by decide) rfl) (.cons rfl (ok_storeV rfl rfl ty66 rfl rfl rfl rfl (by decide) rfl rfl) (.nil ?_)))
   obtain rfl := Option.some.inj h
   refine ak_conv (Γ' := [(4, .ref 4 0)]) (σ' := [(4, .cells 66 [.bool a1.may, .int .i64 a1.holds, .int .i64 a1.fails])]) (.cons rfl (.refl _) (.nil _)) (.cons rfl (.refl _) (.nil _)) ?_
   exact ak_ret (fn := Tryz.f86) Tryz.func86 rfl ⟨⟨_, _, _, _, _, _, rfl, rfl, ty66⟩, trivial⟩ rfl
  ·have h := cond_f ht h
   refine ak_skip ?_
   refine ak_seq ?_
   refine ak_seq ?_
   refine ak_regionS (.cons rfl (ok_fieldV (dlt rfl rfl) rfl fo66_0 ty4 (by decide) rfl) (.cons rfl (ok_loadV (dlt rfl rfl) rfl ty4 rfl rfl rfl) (.cons rfl (ok_not (dlt rfl rfl) rfl rfl) (.nil ?_))))
   refine ak_cond rfl (fun ht => ?_) (fun ht => ?_)
   ·have h := cond_t ht h
    refine ak_seq ?_
    refine ak_regionS (.cons rfl (ok_loadVT (dlt rfl rfl) rfl ty66 rfl rfl (by decide) rfl) (.cons rfl (ok_storeV rfl rfl ty66 rfl rfl rfl rfl (by decide) rfl rfl) (.nil ?_)))
    obtain rfl := Option.some.inj h
    refine ak_conv (Γ' := [(4, .ref 4 0)]) (σ' := [(4, .cells 66 [.bool a0.may, .int .i64 a0.holds, .int .i64 a0.fails])]) (.cons rfl (.refl _) (.nil _)) (.cons rfl (.refl _) (.nil _)) ?_
    exact ak_ret (fn := Tryz.f86) Tryz.func86 rfl ⟨⟨_, _, _, _, _, _, rfl, rfl, ty66⟩, trivial⟩ rfl
   ·have h := cond_f ht h
    refine ak_skip ?_
    refine ak_seq ?_
    obtain ⟨v1, hv1, h⟩ := bind_of h
    obtain ⟨v2, hv2, h⟩ := bind_of h
    refine ak_drawL [⟨some 13, [(2, .ref 2 0)], none, true, .ref 2 1, [], []⟩,
  ⟨some 14, [(13, .ref 2 1)], none, true, .int .i64 a0.holds, [(2, .cells 66 [.bool a0.may, .int .i64 a0.holds, .int .i64 a0.fails])], []⟩,
  ⟨some 15, [(3, .ref 3 0)], none, true, .ref 3 1, [], []⟩,
  ⟨some 16, [(15, .ref 3 1)], none, true, .int .i64 a1.holds, [(3, .cells 66 [.bool a1.may, .int .i64 a1.holds, .int .i64 a1.fails])], []⟩,
  ⟨some 17, [(14, .int .i64 a0.holds), (16, .int .i64 a1.holds)], none, true, .int .i64 v1, [], []⟩,
  ⟨some 18, [(2, .ref 2 0)], none, true, .ref 2 2, [], []⟩,
  ⟨some 19, [(18, .ref 2 2)], none, true, .int .i64 a0.fails, [(2, .cells 66 [.bool a0.may, .int .i64 a0.holds, .int .i64 a0.fails])], []⟩,
  ⟨some 20, [(3, .ref 3 0)], none, true, .ref 3 2, [], []⟩,
  ⟨some 21, [(20, .ref 3 2)], none, true, .int .i64 a1.fails, [(3, .cells 66 [.bool a1.may, .int .i64 a1.holds, .int .i64 a1.fails])], []⟩,
  ⟨some 22, [(19, .int .i64 a0.fails), (21, .int .i64 a1.fails)], none, true, .int .i64 v2, [], []⟩,
  ⟨some 23, [(17, .int .i64 v1), (22, .int .i64 v2)], none, true, .agg [.bool true, .int .i64 v1, .int .i64 v2], [], []⟩,
  ⟨none, [(4, .ref 4 0), (23, .agg [.bool true, .int .i64 v1, .int .i64 v2])], none, true, .undef, [(4, .cells 66 [.bool false, .int .i64 (0 : Int), .int .i64 (0 : Int)])], [(4, .cells 66 [.bool true, .int .i64 v1, .int .i64 v2])]⟩] [[], [0], [], [2], [0, 1, 2, 3], [], [5], [], [7], [0, 1, 2, 3, 4, 5, 6, 7, 8], [0, 1, 2, 3, 4, 5, 6, 7, 8, 9], [0, 1, 2, 3, 4, 5, 6, 7, 8, 9, 10]] (by kernel_rfl) (by kernel_rfl) (.cons (qok (dlt rfl rfl) rfl (.same rfl .nil) (NeedQ.all .nil) (fun Γx σx => ok_fieldV (dlt rfl rfl) rfl fo66_1 ty3 (by decide) rfl)) (.cons (qok (dlt rfl rfl) rfl (.same rfl .nil) (NeedQ.all (.cons rfl .nil)) (fun Γx σx => ok_loadV (dlt rfl rfl) rfl ty3 rfl rfl rfl)) (.cons (qok (dlt rfl rfl) rfl (.same rfl .nil) (NeedQ.all .nil) (fun Γx σx => ok_fieldV (dlt rfl rfl) rfl fo66_1 ty3 (by decide) rfl)) (.cons (qok (dlt rfl rfl) rfl (.same rfl .nil) (NeedQ.all (.cons rfl .nil)) (fun Γx σx => ok_loadV (dlt rfl rfl) rfl ty3 rfl rfl rfl)) (.cons (qok (dlt rfl rfl) rfl (.same rfl (.same rfl .nil)) (NeedQ.all .nil) (fun Γx σx => ok_call (xs := [.int .i64 a0.holds, .int .i64 a1.holds]) (caps := []) (dlt rfl rfl) rfl rfl Tryz.func140 rfl rfl rfl (d140 hv1) rfl)) (.cons (qok (dlt rfl rfl) rfl (.same rfl .nil) (NeedQ.all .nil) (fun Γx σx => ok_fieldV (dlt rfl rfl) rfl fo66_2 ty3 (by decide) rfl)) (.cons (qok (dlt rfl rfl) rfl (.same rfl .nil) (NeedQ.all (.cons rfl .nil)) (fun Γx σx => ok_loadV (dlt rfl rfl) rfl ty3 rfl rfl rfl)) (.cons (qok (dlt rfl rfl) rfl (.same rfl .nil) (NeedQ.all .nil) (fun Γx σx => ok_fieldV (dlt rfl rfl) rfl fo66_2 ty3 (by decide) rfl)) (.cons (qok (dlt rfl rfl) rfl (.same rfl .nil) (NeedQ.all (.cons rfl .nil)) (fun Γx σx => ok_loadV (dlt rfl rfl) rfl ty3 rfl rfl rfl)) (.cons (qok (dlt rfl rfl) rfl (.same rfl (.same rfl .nil)) (NeedQ.all .nil) (fun Γx σx => ok_call (xs := [.int .i64 a0.fails, .int .i64 a1.fails]) (caps := []) (dlt rfl rfl) rfl rfl Tryz.func103 rfl rfl rfl (d103 hv2) rfl)) (.cons (qok (dlt rfl rfl) rfl (.same rfl (.same rfl .nil)) (NeedQ.all .nil) (fun Γx σx => ok_build (dlt rfl rfl) rfl ty66 rfl pl66 rfl rfl rfl)) (.cons (qokN (nodst rfl) rfl (.same rfl (.same rfl .nil)) (NeedQ.all (.cons rfl .nil)) (fresh0 rfl) (fun Γx σx hfr => ok_storeV rfl rfl ty66 rfl rfl rfl rfl (by decide) rfl rfl)) (.nil _ _))))))))))))) (.nil ?_)
    obtain rfl := Option.some.inj h
    refine ak_conv (Γ' := [(4, .ref 4 0)]) (σ' := [(4, .cells 66 [.bool ((⟨true, v1, v2⟩ : Ref17Fate).may), .int .i64 ((⟨true, v1, v2⟩ : Ref17Fate).holds), .int .i64 ((⟨true, v1, v2⟩ : Ref17Fate).fails)])]) (.cons rfl (.refl _) (.nil _)) (.cons rfl (.refl _) (.nil _)) ?_
    exact ak_ret (fn := Tryz.f86) Tryz.func86 rfl ⟨⟨_, _, _, _, _, _, rfl, rfl, ty66⟩, trivial⟩ rfl)
theorem d86 {a0 : Ref17Fate} {a1 : Ref17Fate} {r : Ref17Fate} (h : f86 (.e86 a0 a1) = some r) : Does Tryz.prog GG 86 [.agg [.bool a0.may, .int .i64 a0.holds, .int .i64 a0.fails], .agg [.bool a1.may, .int .i64 a1.holds, .int .i64 a1.fails]] [] (fun z _ => z = .agg [.bool r.may, .int .i64 r.holds, .int .i64 r.fails]) := fn_of (fn := Tryz.f86) Tryz.func86 rfl Tryz.ntmps86 rfl (w86 _ _ h)
end Go.Proofs.YtonlbdholdaifaaGreatDoor
end
section
set_option linter.unusedVariables false
set_option linter.unusedSimpArgs false
set_option maxRecDepth 10000
namespace Go.Proofs.YtonlbdholdaifaaGreatDoor
open Go Go.Rf Go.Proofs
/-- riffle/riffleref17.Of -/
noncomputable abbrev b31 : Code := codeOf Tryz.f31
inductive L31 where
 | e31 (a0 : ApiValue) (a1 : List ApiSegment) (a2 : List Int)
 | l31_0 (a0 : List ApiSegment) (a1 : List Int) (a2 : List Int) (a3 : Int) (a4 : Int) (a5 : Bool) (a6 : Int) (a7 : Int) (a8 : Bool) (a9 : Int) (a10 : Int) (a11 : List ApiValue)
 | l31_1 (a0 : List ApiSegment) (a1 : List Int) (a2 : Int) (a3 : Int) (a4 : Bool) (a5 : Int) (a6 : Int) (a7 : Bool) (a8 : Int) (a9 : Int) (a10 : List Ref17Fate) (a11 : List ApiValue)
 | l31_2 (a0 : List ApiSegment) (a1 : List Int) (a2 : Int) (a3 : Bool) (a4 : Int) (a5 : Int) (a6 : Bool) (a7 : Int) (a8 : Int) (a9 : List Ref17Fate) (a10 : List ApiValue)
 | l31_3 (a0 : List ApiSegment) (a1 : List Int) (a2 : Int) (a3 : List ApiSegment) (a4 : Int) (a5 : Int) (a6 : List Ref17Fate) (a7 : Bool) (a8 : Int) (a9 : Int) (a10 : Bool) (a11 : Int) (a12 : Int) (a13 : List Ref17Fate) (a14 : List ApiValue)
 | l31_4 (a0 : List ApiSegment) (a1 : List Int) (a2 : Int) (a3 : Int) (a4 : List ApiSegment) (a5 : Int) (a6 : Int) (a7 : List Ref17Fate) (a8 : Ref17Fate) (a9 : ApiSegment) (a10 : Bool) (a11 : Int) (a12 : Int) (a13 : Bool) (a14 : Int) (a15 : Int) (a16 : List Ref17Fate) (a17 : List ApiValue)
 | l31_5 (a0 : List ApiSegment) (a1 : List Int) (a2 : Int) (a3 : Int) (a4 : List ApiSegment) (a5 : Int) (a6 : Int) (a7 : List ApiSelector) (a8 : Int) (a9 : Int) (a10 : List Ref17Fate) (a11 : Ref17Fate) (a12 : Bool) (a13 : Int) (a14 : Int) (a15 : Bool) (a16 : Int) (a17 : Int) (a18 : List Ref17Fate) (a19 : List ApiValue)
noncomputable def f31 : L31 → Option Ref17Fate
 | .e31 a0 a1 a2 =>
  f31 (.l31_0 a1 a2 a2 (a2.length : Int) (0 : Int) false (-1) (-1) false (0 : Int) (0 : Int) ([a0] : List ApiValue))
 | .l31_0 a0 a1 a2 a3 a4 a5 a6 a7 a8 a9 a10 a11 =>
  if (decide (a4 < a3)) = true then
   idx a2 a4 >>= fun v1 =>
   idx a11 (IntKind.wrap .i64 ((a11.length : Int) - (1 : Int))) >>= fun v2 =>
   if ((decide (v1 < (0 : Int))) || (decide ((v2.items.length : Int) ≤ v1))) = true then
    some (⟨a5, a6, a7⟩ : Ref17Fate)
   else
    idx v2.items v1 >>= fun v3 =>
    room a11.length ([v3] : List ApiValue).length 88 >>= fun v4 =>
    f31 (.l31_0 a0 a1 a2 a3 (IntKind.wrap .i64 (a4 + (1 : Int))) a5 a6 a7 a8 a9 a10 (a11 ++ ([v3] : List ApiValue)))
  else
   f31 (.l31_1 a0 a1 (a0.length : Int) (0 : Int) a5 a6 a7 a8 a9 a10 ([] : List Ref17Fate) a11)
 | .l31_1 a0 a1 a2 a3 a4 a5 a6 a7 a8 a9 a10 a11 =>
  if (decide (a3 < a2)) = true then
   room a10.length ([(⟨a4, a5, a6⟩ : Ref17Fate)] : List Ref17Fate).length 24 >>= fun v5 =>
   f31 (.l31_1 a0 a1 a2 (IntKind.wrap .i64 (a3 + (1 : Int))) a4 a5 a6 a7 a8 a9 (a10 ++ ([(⟨a4, a5, a6⟩ : Ref17Fate)] : List Ref17Fate)) a11)
  else
   room a10.length ([(⟨true, 0, (-1)⟩ : Ref17Fate)] : List Ref17Fate).length 24 >>= fun v6 =>
   f31 (.l31_2 a0 a1 (IntKind.wrap .i64 ((a1.length : Int) - (1 : Int))) a4 a5 a6 a7 a8 a9 (a10 ++ ([(⟨true, 0, (-1)⟩ : Ref17Fate)] : List Ref17Fate)) a11)
 | .l31_2 a0 a1 a2 a3 a4 a5 a6 a7 a8 a9 a10 =>
  if (decide ((0 : Int) ≤ a2)) = true then
   f31 (.l31_3 a0 a1 a2 a0 (a0.length : Int) (0 : Int) ([] : List Ref17Fate) a3 a4 a5 a6 a7 a8 a9 a10)
  else
   idx a9 (0 : Int) >>= fun v7 =>
   some v7
 | .l31_3 a0 a1 a2 a3 a4 a5 a6 a7 a8 a9 a10 a11 a12 a13 a14 =>
  if (decide (a5 < a4)) = true then
   idx a3 a5 >>= fun v8 =>
   if v8.deep = true then
    idx a13 a5 >>= fun v9 =>
    f31 (.l31_4 a0 a1 a2 a5 a3 a4 a5 a6 v9 v8 a7 a8 a9 a10 a11 a12 a13 a14)
   else
    f31 (.l31_4 a0 a1 a2 a5 a3 a4 a5 a6 (⟨a7, a8, a9⟩ : Ref17Fate) v8 a7 a8 a9 a10 a11 a12 a13 a14)
  else
   room a6.length ([(⟨a7, a8, a9⟩ : Ref17Fate)] : List Ref17Fate).length 24 >>= fun v10 =>
   f31 (.l31_2 a0 a1 (IntKind.wrap .i64 (a2 - (1 : Int))) a7 a8 a9 a10 a11 a12 (a6 ++ ([(⟨a7, a8, a9⟩ : Ref17Fate)] : List Ref17Fate)) a14)
 | .l31_4 a0 a1 a2 a3 a4 a5 a6 a7 a8 a9 a10 a11 a12 a13 a14 a15 a16 a17 =>
  f31 (.l31_5 a0 a1 a2 a3 a4 a5 a6 a9.selectors (a9.selectors.length : Int) (0 : Int) a7 a8 a10 a11 a12 a13 a14 a15 a16 a17)
 | .l31_5 a0 a1 a2 a3 a4 a5 a6 a7 a8 a9 a10 a11 a12 a13 a14 a15 a16 a17 a18 a19 =>
  if (decide (a9 < a8)) = true then
   idx a7 a9 >>= fun v11 =>
   idx a19 a2 >>= fun v12 =>
   idx a1 a2 >>= fun v13 =>
   idx a18 (IntKind.wrap .i64 (a3 + (1 : Int))) >>= fun v14 =>
   f87 (.e87 v12 v13 v11 v14) >>= fun v15 =>
   f86 (.e86 a11 v15) >>= fun v16 =>
   f31 (.l31_5 a0 a1 a2 a3 a4 a5 a6 a7 a8 (IntKind.wrap .i64 (a9 + (1 : Int))) a10 v16 a12 a13 a14 a15 a16 a17 a18 a19)
  else
   room a10.length ([a11] : List Ref17Fate).length 24 >>= fun v17 =>
   f31 (.l31_3 a0 a1 a2 a4 a5 (IntKind.wrap .i64 (a6 + (1 : Int))) (a10 ++ ([a11] : List Ref17Fate)) a12 a13 a14 a15 a16 a17 a18 a19)
 partial_fixpoint
def M31 : L31 → Ref17Fate → Prop
 | .e31 a0 a1 a2, r => ∀ (w : World) (F : Nat → Prop) (ρ : Rho), AK Tryz.prog (ctx GG 127 w F ρ []) 31 [.code b31] (argE 0 [.agg [.int .i64 a0.kind, .int .i64 a0.frm, .int .i64 a0.to, .str a0.text, .sl Ty.sApiValue a0.items, .sl Ty.str a0.names], .sl Ty.sApiSegment a1, .sl Ty.i64 a2]) [] (fun z _ => z = .agg [.bool r.may, .int .i64 r.holds, .int .i64 r.fails])
 | .l31_0 a0 a1 a2 a3 a4 a5 a6 a7 a8 a9 a10 a11, r => ∀ (w : World) (F : Nat → Prop) (ρ : Rho), AK Tryz.prog (ctx GG 127 w F ρ []) 31 [.code (c1 (c1 (c2 (c1 (c2 (c2 (c2 b31))))))), .inLoop (c1 (c1 (c2 (c1 (c2 (c2 (c2 b31))))))), .inBlock 0, .code (c2 (c2 (c2 (c2 b31))))] [(1, .sl Ty.sApiSegment a0), (2, .sl Ty.i64 a1), (6, .ref 6 0), (7, .ref 7 0), (8, .mf 6 2022), (23, .sl Ty.i64 a2), (24, .int .i64 a3), (25, .int .i64 a4)] [(7, .cells 66 [.bool a5, .int .i64 a6, .int .i64 a7]), (6, .cells 66 [.bool a8, .int .i64 a9, .int .i64 a10]), (2022, .arr 29 Ty.sApiValue a11)] (fun z _ => z = .agg [.bool r.may, .int .i64 r.holds, .int .i64 r.fails])
 | .l31_1 a0 a1 a2 a3 a4 a5 a6 a7 a8 a9 a10 a11, r => ∀ (w : World) (F : Nat → Prop) (ρ : Rho), AK Tryz.prog (ctx GG 127 w F ρ []) 31 [.code (c1 (c1 (c2 (c1 (c2 (c2 (c2 (c2 (c2 b31))))))))), .inLoop (c1 (c1 (c2 (c1 (c2 (c2 (c2 (c2 (c2 b31))))))))), .inBlock 2, .code (c2 (c2 (c2 (c2 (c2 (c2 b31))))))] [(1, .sl Ty.sApiSegment a0), (2, .sl Ty.i64 a1), (6, .ref 6 0), (7, .ref 7 0), (8, .mf 6 2022), (12, .mf 3 2054), (56, .int .i64 a2), (57, .int .i64 a3)] [(7, .cells 66 [.bool a4, .int .i64 a5, .int .i64 a6]), (6, .cells 66 [.bool a7, .int .i64 a8, .int .i64 a9]), (2054, .arr 66 Ty.sRef17Fate a10), (2022, .arr 29 Ty.sApiValue a11)] (fun z _ => z = .agg [.bool r.may, .int .i64 r.holds, .int .i64 r.fails])
 | .l31_2 a0 a1 a2 a3 a4 a5 a6 a7 a8 a9 a10, r => ∀ (w : World) (F : Nat → Prop) (ρ : Rho), AK Tryz.prog (ctx GG 127 w F ρ []) 31 [.code (c1 (c1 (c2 (c1 (c2 (c2 (c2 (c2 (c2 (c2 (c2 b31))))))))))), .inLoop (c1 (c1 (c2 (c1 (c2 (c2 (c2 (c2 (c2 (c2 (c2 b31))))))))))), .inBlock 4, .code (c2 (c2 (c2 (c2 (c2 (c2 (c2 (c2 b31))))))))] [(1, .sl Ty.sApiSegment a0), (2, .sl Ty.i64 a1), (6, .ref 6 0), (7, .ref 7 0), (8, .mf 6 2022), (12, .mf 3 2054), (13, .int .i64 a2)] [(7, .cells 66 [.bool a3, .int .i64 a4, .int .i64 a5]), (6, .cells 66 [.bool a6, .int .i64 a7, .int .i64 a8]), (2054, .arr 66 Ty.sRef17Fate a9), (2022, .arr 29 Ty.sApiValue a10)] (fun z _ => z = .agg [.bool r.may, .int .i64 r.holds, .int .i64 r.fails])
 | .l31_3 a0 a1 a2 a3 a4 a5 a6 a7 a8 a9 a10 a11 a12 a13 a14, r => ∀ (w : World) (F : Nat → Prop) (ρ : Rho), AK Tryz.prog (ctx GG 127 w F ρ []) 31 [.code (c1 (c1 (c2 (c1 (c2 (c1 (c1 (c2 (c1 (c1 (c2 (c1 (c2 (c2 (c2 (c2 (c2 (c2 (c2 b31))))))))))))))))))), .inLoop (c1 (c1 (c2 (c1 (c2 (c1 (c1 (c2 (c1 (c1 (c2 (c1 (c2 (c2 (c2 (c2 (c2 (c2 (c2 b31))))))))))))))))))), .inBlock 6, .code (c2 (c2 (c1 (c1 (c2 (c1 (c1 (c2 (c1 (c2 (c2 (c2 (c2 (c2 (c2 (c2 b31)))))))))))))))), .inBlock 5, .code (c2 (c2 (c1 (c1 (c2 (c1 (c2 (c2 (c2 (c2 (c2 (c2 (c2 b31))))))))))))), .inLoop (c1 (c1 (c2 (c1 (c2 (c2 (c2 (c2 (c2 (c2 (c2 b31))))))))))), .inBlock 4, .code (c2 (c2 (c2 (c2 (c2 (c2 (c2 (c2 b31))))))))] [(1, .sl Ty.sApiSegment a0), (2, .sl Ty.i64 a1), (6, .ref 6 0), (7, .ref 7 0), (8, .mf 6 2022), (12, .mf 3 2054), (13, .int .i64 a2), (14, .mf 3 2075), (76, .sl Ty.sApiSegment a3), (77, .int .i64 a4), (78, .int .i64 a5)] [(2075, .arr 66 Ty.sRef17Fate a6), (7, .cells 66 [.bool a7, .int .i64 a8, .int .i64 a9]), (6, .cells 66 [.bool a10, .int .i64 a11, .int .i64 a12]), (2054, .arr 66 Ty.sRef17Fate a13), (2022, .arr 29 Ty.sApiValue a14)] (fun z _ => z = .agg [.bool r.may, .int .i64 r.holds, .int .i64 r.fails])
 | .l31_4 a0 a1 a2 a3 a4 a5 a6 a7 a8 a9 a10 a11 a12 a13 a14 a15 a16 a17, r => ∀ (w : World) (F : Nat → Prop) (ρ : Rho), AK Tryz.prog (ctx GG 127 w F ρ []) 31 [.code (c2 (c2 (c2 (c1 (c1 (c2 (c2 (c1 (c1 (c2 (c1 (c2 (c1 (c1 (c2 (c1 (c1 (c2 (c1 (c2 (c2 (c2 (c2 (c2 (c2 (c2 b31)))))))))))))))))))))))))), .inBlock 7, .code (c2 (c2 (c2 (c1 (c1 (c2 (c1 (c2 (c1 (c1 (c2 (c1 (c1 (c2 (c1 (c2 (c2 (c2 (c2 (c2 (c2 (c2 b31)))))))))))))))))))))), .inLoop (c1 (c1 (c2 (c1 (c2 (c1 (c1 (c2 (c1 (c1 (c2 (c1 (c2 (c2 (c2 (c2 (c2 (c2 (c2 b31))))))))))))))))))), .inBlock 6, .code (c2 (c2 (c1 (c1 (c2 (c1 (c1 (c2 (c1 (c2 (c2 (c2 (c2 (c2 (c2 (c2 b31)))))))))))))))), .inBlock 5, .code (c2 (c2 (c1 (c1 (c2 (c1 (c2 (c2 (c2 (c2 (c2 (c2 (c2 b31))))))))))))), .inLoop (c1 (c1 (c2 (c1 (c2 (c2 (c2 (c2 (c2 (c2 (c2 b31))))))))))), .inBlock 4, .code (c2 (c2 (c2 (c2 (c2 (c2 (c2 (c2 b31))))))))] [(1, .sl Ty.sApiSegment a0), (2, .sl Ty.i64 a1), (6, .ref 6 0), (7, .ref 7 0), (8, .mf 6 2022), (12, .mf 3 2054), (13, .int .i64 a2), (14, .mf 3 2075), (15, .int .i64 a3), (16, .ref 16 0), (17, .ref 17 0), (76, .sl Ty.sApiSegment a4), (77, .int .i64 a5), (78, .int .i64 a6)] [(2075, .arr 66 Ty.sRef17Fate a7), (17, .cells 66 [.bool a8.may, .int .i64 a8.holds, .int .i64 a8.fails]), (16, .cells 47 [.bool a9.deep, .sl Ty.sApiSelector a9.selectors]), (7, .cells 66 [.bool a10, .int .i64 a11, .int .i64 a12]), (6, .cells 66 [.bool a13, .int .i64 a14, .int .i64 a15]), (2054, .arr 66 Ty.sRef17Fate a16), (2022, .arr 29 Ty.sApiValue a17)] (fun z _ => z = .agg [.bool r.may, .int .i64 r.holds, .int .i64 r.fails])
 | .l31_5 a0 a1 a2 a3 a4 a5 a6 a7 a8 a9 a10 a11 a12 a13 a14 a15 a16 a17 a18 a19, r => ∀ (w : World) (F : Nat → Prop) (ρ : Rho), AK Tryz.prog (ctx GG 127 w F ρ []) 31 [.code (c1 (c1 (c2 (c1 (c2 (c2 (c2 (c1 (c1 (c2 (c2 (c1 (c1 (c2 (c1 (c2 (c1 (c1 (c2 (c1 (c1 (c2 (c1 (c2 (c2 (c2 (c2 (c2 (c2 (c2 b31)))))))))))))))))))))))))))))), .inLoop (c1 (c1 (c2 (c1 (c2 (c2 (c2 (c1 (c1 (c2 (c2 (c1 (c1 (c2 (c1 (c2 (c1 (c1 (c2 (c1 (c1 (c2 (c1 (c2 (c2 (c2 (c2 (c2 (c2 (c2 b31)))))))))))))))))))))))))))))), .inBlock 8, .code (c2 (c2 (c2 (c2 (c1 (c1 (c2 (c2 (c1 (c1 (c2 (c1 (c2 (c1 (c1 (c2 (c1 (c1 (c2 (c1 (c2 (c2 (c2 (c2 (c2 (c2 (c2 b31))))))))))))))))))))))))))), .inBlock 7, .code (c2 (c2 (c2 (c1 (c1 (c2 (c1 (c2 (c1 (c1 (c2 (c1 (c1 (c2 (c1 (c2 (c2 (c2 (c2 (c2 (c2 (c2 b31)))))))))))))))))))))), .inLoop (c1 (c1 (c2 (c1 (c2 (c1 (c1 (c2 (c1 (c1 (c2 (c1 (c2 (c2 (c2 (c2 (c2 (c2 (c2 b31))))))))))))))))))), .inBlock 6, .code (c2 (c2 (c1 (c1 (c2 (c1 (c1 (c2 (c1 (c2 (c2 (c2 (c2 (c2 (c2 (c2 b31)))))))))))))))), .inBlock 5, .code (c2 (c2 (c1 (c1 (c2 (c1 (c2 (c2 (c2 (c2 (c2 (c2 (c2 b31))))))))))))), .inLoop (c1 (c1 (c2 (c1 (c2 (c2 (c2 (c2 (c2 (c2 (c2 b31))))))))))), .inBlock 4, .code (c2 (c2 (c2 (c2 (c2 (c2 (c2 (c2 b31))))))))] [(1, .sl Ty.sApiSegment a0), (2, .sl Ty.i64 a1), (6, .ref 6 0), (7, .ref 7 0), (8, .mf 6 2022), (12, .mf 3 2054), (13, .int .i64 a2), (14, .mf 3 2075), (15, .int .i64 a3), (17, .ref 17 0), (76, .sl Ty.sApiSegment a4), (77, .int .i64 a5), (78, .int .i64 a6), (91, .sl Ty.sApiSelector a7), (92, .int .i64 a8), (93, .int .i64 a9)] [(2075, .arr 66 Ty.sRef17Fate a10), (17, .cells 66 [.bool a11.may, .int .i64 a11.holds, .int .i64 a11.fails]), (7, .cells 66 [.bool a12, .int .i64 a13, .int .i64 a14]), (6, .cells 66 [.bool a15, .int .i64 a16, .int .i64 a17]), (2054, .arr 66 Ty.sRef17Fate a18), (2022, .arr 29 Ty.sApiValue a19)] (fun z _ => z = .agg [.bool r.may, .int .i64 r.holds, .int .i64 r.fails])
theorem w31 : ∀ (l : L31) (r : Ref17Fate), f31 l = some r → M31 l r := f31.partial_correctness M31 (by
 intro f ih l r h
 cases l with
 | e31 a0 a1 a2 =>
  intro w F ρ
  dsimp only at h
  refine ak_seq ?_
  refine ak_regionS (.cons rfl (ok_box (d := 3) (dlt rfl rfl) rfl rfl rfl rfl rfl) (.cons rfl (ok_alloc (d := 6) (dlt rfl rfl) rfl ty66 rfl rfl rfl) (.nil ?_)))
  refine ak_seq ?_
  refine ak_regionS (.cons rfl (ok_build (dlt rfl rfl) rfl ty66 rfl pl66 rfl rfl rfl) (.cons rfl (ok_alloc (d := 7) (dlt rfl rfl) rfl ty66 rfl rfl rfl) (.cons rfl (ok_storeV rfl rfl ty66 rfl rfl rfl rfl (by decide) rfl rfl) (.nil ?_))))
  refine ak_seq ?_
  refine ak_regionS (.cons rfl (ok_loadVT (dlt rfl rfl) rfl ty29 rfl rfl (by decide) rfl) (.cons rfl (ok_litM (d := 2022) (τ := Ty.sApiValue) (dlt rfl rfl) ([a0] : List ApiValue) rfl Tryz.underlying26 ty29 rfl rfl rfl rfl rfl (by decide) (by decide) rfl (.cons (.refl _) (.cons (.refl _) (.cons (.refl _) (.cons (.refl _) (.cons (.refl _) (.cons (.refl _) (.nil))))))) rfl rfl) (.cons rfl (ok_assign (dlt rfl rfl) rfl rfl) (.nil ?_))))
  refine ak_seq ?_
  refine ak_seq ?_
  refine ak_regionS (.cons rfl (ok_move (dlt rfl rfl) rfl rfl) (.cons rfl (ok_lenS (τ := Ty.i64) (xs := a2) (dlt rfl rfl) rfl Tryz.underlying50 rfl) (.cons rfl (ok_move (dlt rfl rfl) rfl rfl) (.nil ?_))))
  refine ak_block ?_
  refine ak_loop ?_
  exact ak_conv (.cons rfl (.refl _) (.cons rfl (.refl _) (.cons rfl (.refl _) (.cons rfl (.refl _) (.cons rfl (.refl _) (.cons rfl (.refl _) (.cons rfl (.refl _) (.cons rfl (.refl _) (.nil _))))))))) (.cons rfl (.refl _) (.cons rfl (.refl _) (.cons rfl (.refl _) (.nil _)))) (ih _ _ h w F ρ)
 | l31_0 a0 a1 a2 a3 a4 a5 a6 a7 a8 a9 a10 a11 =>
  intro w F ρ
  dsimp only at h
  refine ak_seq ?_
  refine ak_regionS (.cons rfl (ok_lss (dlt rfl rfl) rfl rfl rfl) (.nil ?_))
  refine ak_seq ?_
  refine ak_cond rfl (fun ht => ?_) (fun ht => ?_)
  ·have h := cond_t ht h
   refine ak_skip ?_
   refine ak_seq ?_
   refine ak_block ?_
   refine ak_seq ?_
   obtain ⟨v1, hv1, h⟩ := bind_of h
   refine ak_regionS (.cons rfl (ok_indexS (τ := Ty.i64) (x := v1) (dlt rfl rfl) rfl Tryz.underlying50 ty3 rfl rfl rfl (idx_0 hv1) (idx_1 hv1)) (.cons rfl (ok_loadR (dlt rfl rfl) rfl ty3 rfl rfl) (.cons rfl (ok_assign (dlt rfl rfl) rfl rfl) (.nil ?_))))
   refine ak_seq ?_
   obtain ⟨v2, hv2, h⟩ := bind_of h
   refine ak_regionS (.cons rfl (ok_move (dlt rfl rfl) rfl rfl) (.cons rfl (ok_move (dlt rfl rfl) rfl rfl) (.cons rfl (ok_lenA (dlt rfl rfl) rfl Tryz.underlying26 rfl rfl) (.cons rfl (ok_sub (dlt rfl rfl) rfl rfl rfl) (.cons rfl (ok_indexA (dlt rfl rfl) rfl Tryz.underlying26 ty29 rfl rfl rfl (idx_0 hv2) (idx_lt hv2)) (.cons rfl (ok_loadEA (τ := Ty.sApiValue) (x := v2) (dlt rfl rfl) rfl ty29 rfl rfl (idx_1 hv2) rfl) (.cons rfl (ok_alloc (d := 11) (dlt rfl rfl) rfl ty29 rfl rfl rfl) (.cons rfl (ok_storeV rfl rfl ty29 rfl rfl rfl rfl (by decide) rfl rfl) (.nil ?_)))))))))
   refine ak_seq ?_
   refine ak_seq ?_
   refine ak_regionS (.cons rfl (ok_move (dlt rfl rfl) rfl rfl) (.cons rfl (ok_lss (dlt rfl rfl) rfl rfl rfl) (.cons rfl (ok_move (dlt rfl rfl) rfl rfl) (.consG (pre := []) (dlt rfl rfl) rfl rfl rfl rfl .nil (fun he => ok_move (dlt rfl rfl) rfl rfl) (.consG (pre := []) (dlt rfl rfl) rfl rfl rfl rfl .nil (fun he => ok_fieldV (dlt rfl rfl) rfl fo29_4 ty26 (by decide) rfl) (.consG (pre := [(39, .ref 11 4)]) (dlt rfl rfl) rfl rfl rfl rfl (.cons rfl (fun he => he) .nil) (fun he => ok_loadV (dlt rfl rfl) rfl ty26 rfl rfl rfl) (.consG (pre := [(40, .sl Ty.sApiValue v2.items)]) (dlt rfl rfl) rfl rfl rfl rfl (.cons rfl (fun he => he) .nil) (fun he => ok_lenS (τ := Ty.sApiValue) (xs := v2.items) (dlt rfl rfl) rfl Tryz.underlying26 rfl) (.consG (pre := [(38, .int .i64 v1), (41, .int .i64 (v2.items.length : Int))]) (dlt rfl rfl) rfl rfl rfl rfl (.cons rfl (fun he => he) (.cons rfl (fun he => he) .nil)) (fun he => ok_geq (dlt rfl rfl) rfl rfl rfl) (.cons rfl (ok_orW (dlt rfl rfl) rfl rfl rfl (fun h => (bnot_t h))) (.nil ?_))))))))))
   refine ak_cond rfl (fun ht => ?_) (fun ht => ?_)
   ·have h := cond_t ht h
    refine ak_seq ?_
    refine ak_regionS (.cons rfl (ok_loadVT (dlt rfl rfl) rfl ty66 rfl rfl (by decide) rfl) (.cons rfl (ok_storeV rfl rfl ty66 rfl rfl rfl rfl (by decide) rfl rfl) (.nil ?_)))
    obtain rfl := Option.some.inj h
    refine ak_conv (Γ' := [(6, .ref 6 0)]) (σ' := [(6, .cells 66 [.bool ((⟨a5, a6, a7⟩ : Ref17Fate).may), .int .i64 ((⟨a5, a6, a7⟩ : Ref17Fate).holds), .int .i64 ((⟨a5, a6, a7⟩ : Ref17Fate).fails)])]) (.cons rfl (.refl _) (.nil _)) (.cons rfl (.refl _) (.nil _)) ?_
    exact ak_ret (fn := Tryz.f31) Tryz.func31 rfl ⟨⟨_, _, _, _, _, _, rfl, rfl, ty66⟩, trivial⟩ rfl
   ·have h := cond_f ht h
    refine ak_skip ?_
    obtain ⟨v3, hv3, h⟩ := bind_of h
    obtain ⟨v4, hv4, h⟩ := bind_of h
    refine ak_regionS (.cons rfl (ok_move (dlt rfl rfl) rfl rfl) (.cons rfl (ok_fieldV (dlt rfl rfl) rfl fo29_4 ty26 (by decide) rfl) (.cons rfl (ok_loadV (dlt rfl rfl) rfl ty26 rfl rfl rfl) (.cons rfl (ok_move (dlt rfl rfl) rfl rfl) (.cons rfl (ok_indexS (τ := Ty.sApiValue) (x := v3) (dlt rfl rfl) rfl Tryz.underlying26 ty29 rfl rfl rfl (idx_0 hv3) (idx_1 hv3)) (.cons rfl (ok_loadRT (dlt rfl rfl) rfl ty29 rfl (by decide) rfl) (.cons rfl (ok_lit (τ := Ty.sApiValue) (dlt rfl rfl) ([v3] : List ApiValue) rfl Tryz.underlying26 ty29 rfl rfl rfl rfl rfl (by decide) (by decide) rfl) (.cons rfl (ok_appendF (τ := Ty.sApiValue) (xs := a11) (ys := ([v3] : List ApiValue)) (dlt rfl rfl) rfl Tryz.underlying26 ty29 rfl rfl rfl rfl (room_1 hv4) (room_2 hv4)) (.cons rfl (ok_assign (dlt rfl rfl) rfl rfl) (.nil ?_))))))))))
    refine ak_inBlock ?_
    refine ak_regionS (.cons rfl (ok_add (dlt rfl rfl) rfl rfl rfl) (.cons rfl (ok_move (dlt rfl rfl) rfl rfl) (.nil ?_)))
    refine ak_inLoop ?_
    exact ak_conv (.cons rfl (.refl _) (.cons rfl (.refl _) (.cons rfl (.refl _) (.cons rfl (.refl _) (.cons rfl (.refl _) (.cons rfl (.refl _) (.cons rfl (.refl _) (.cons rfl (.refl _) (.nil _))))))))) (.cons rfl (.refl _) (.cons rfl (.refl _) (.cons rfl (.refl _) (.nil _)))) (ih _ _ h w F ρ)
  ·have h := cond_f ht h
   refine ak_exit rfl ?_
   refine ak_seq ?_
   refine ak_regionS (.cons rfl (ok_litM0 (d := 2054) (dlt rfl rfl) Ty.sRef17Fate rfl rfl Tryz.underlying146 ty66 rfl rfl) (.cons rfl (ok_assign (dlt rfl rfl) rfl rfl) (.nil ?_)))
   refine ak_seq ?_
   refine ak_seq ?_
   refine ak_regionS (.cons rfl (ok_move (dlt rfl rfl) rfl rfl) (.cons rfl (ok_lenS (τ := Ty.sApiSegment) (xs := a0) (dlt rfl rfl) rfl Tryz.underlying24 rfl) (.cons rfl (ok_move (dlt rfl rfl) rfl rfl) (.nil ?_))))
   refine ak_block ?_
   refine ak_loop ?_
   exact ak_conv (.cons rfl (.refl _) (.cons rfl (.refl _) (.cons rfl (.refl _) (.cons rfl (.refl _) (.cons rfl (.refl _) (.cons rfl (.refl _) (.cons rfl (.refl _) (.cons rfl (.refl _) (.nil _))))))))) (.cons rfl (.refl _) (.cons rfl (.refl _) (.cons rfl (.refl _) (.cons rfl (.refl _) (.nil _))))) (ih _ _ h w F ρ)
 | l31_1 a0 a1 a2 a3 a4 a5 a6 a7 a8 a9 a10 a11 =>
  intro w F ρ
  dsimp only at h
  refine ak_seq ?_
  refine ak_regionS (.cons rfl (ok_lss (dlt rfl rfl) rfl rfl rfl) (.nil ?_))
  refine ak_seq ?_
  refine ak_cond rfl (fun ht => ?_) (fun ht => ?_)
  ·have h := cond_t ht h
   refine ak_skip ?_
   refine ak_seq ?_
   refine ak_block ?_
   obtain ⟨v5, hv5, h⟩ := bind_of h
   refine ak_regionS (.cons rfl (ok_move (dlt rfl rfl) rfl rfl) (.cons rfl (ok_loadVT (dlt rfl rfl) rfl ty66 rfl rfl (by decide) rfl) (.cons rfl (ok_lit (τ := Ty.sRef17Fate) (dlt rfl rfl) ([(⟨a4, a5, a6⟩ : Ref17Fate)] : List Ref17Fate) rfl Tryz.underlying146 ty66 rfl rfl rfl rfl rfl (by decide) (by decide) rfl) (.cons rfl (ok_appendF (τ := Ty.sRef17Fate) (xs := a10) (ys := ([(⟨a4, a5, a6⟩ : Ref17Fate)] : List Ref17Fate)) (dlt rfl rfl) rfl Tryz.underlying146 ty66 rfl rfl rfl rfl (room_1 hv5) (room_2 hv5)) (.cons rfl (ok_assign (dlt rfl rfl) rfl rfl) (.nil ?_))))))
   refine ak_inBlock ?_
   refine ak_regionS (.cons rfl (ok_add (dlt rfl rfl) rfl rfl rfl) (.cons rfl (ok_move (dlt rfl rfl) rfl rfl) (.nil ?_)))
   refine ak_inLoop ?_
   exact ak_conv (.cons rfl (.refl _) (.cons rfl (.refl _) (.cons rfl (.refl _) (.cons rfl (.refl _) (.cons rfl (.refl _) (.cons rfl (.refl _) (.cons rfl (.refl _) (.cons rfl (.refl _) (.nil _))))))))) (.cons rfl (.refl _) (.cons rfl (.refl _) (.cons rfl (.refl _) (.cons rfl (.refl _) (.nil _))))) (ih _ _ h w F ρ)
  ·have h := cond_f ht h
   refine ak_exit rfl ?_
   refine ak_seq ?_
   obtain ⟨v6, hv6, h⟩ := bind_of h
   refine ak_regionS (.cons rfl (ok_move (dlt rfl rfl) rfl rfl) (.cons rfl (ok_build (dlt rfl rfl) rfl ty66 rfl pl66 rfl rfl rfl) (.cons rfl (ok_lit (τ := Ty.sRef17Fate) (dlt rfl rfl) ([(⟨true, 0, (-1)⟩ : Ref17Fate)] : List Ref17Fate) rfl Tryz.underlying146 ty66 rfl rfl rfl rfl rfl (by decide) (by decide) rfl) (.cons rfl (ok_appendF (τ := Ty.sRef17Fate) (xs := a10) (ys := ([(⟨true, 0, (-1)⟩ : Ref17Fate)] : List Ref17Fate)) (dlt rfl rfl) rfl Tryz.underlying146 ty66 rfl rfl rfl rfl (room_1 hv6) (room_2 hv6)) (.cons rfl (ok_assign (dlt rfl rfl) rfl rfl) (.nil ?_))))))
   refine ak_seq ?_
   refine ak_seq ?_
   refine ak_regionS (.cons rfl (ok_move (dlt rfl rfl) rfl rfl) (.cons rfl (ok_lenS (τ := Ty.i64) (xs := a1) (dlt rfl rfl) rfl Tryz.underlying50 rfl) (.cons rfl (ok_sub (dlt rfl rfl) rfl rfl rfl) (.cons rfl (ok_assign (dlt rfl rfl) rfl rfl) (.nil ?_)))))
   refine ak_block ?_
   refine ak_loop ?_
   exact ak_conv (.cons rfl (.refl _) (.cons rfl (.refl _) (.cons rfl (.refl _) (.cons rfl (.refl _) (.cons rfl (.refl _) (.cons rfl (.refl _) (.cons rfl (.refl _) (.nil _)))))))) (.cons rfl (.refl _) (.cons rfl (.refl _) (.cons rfl (.refl _) (.cons rfl (.refl _) (.nil _))))) (ih _ _ h w F ρ)
 | l31_2 a0 a1 a2 a3 a4 a5 a6 a7 a8 a9 a10 =>
  intro w F ρ
  dsimp only at h
  refine ak_seq ?_
  refine ak_seq ?_
  refine ak_regionS (.cons rfl (ok_move (dlt rfl rfl) rfl rfl) (.cons rfl (ok_geq (dlt rfl rfl) rfl rfl rfl) (.nil ?_)))
  refine ak_cond rfl (fun ht => ?_) (fun ht => ?_)
  ·have h := cond_t ht h
   refine ak_skip ?_
   refine ak_seq ?_
   refine ak_block ?_
   refine ak_seq ?_
   refine ak_regionS (.cons rfl (ok_litM0 (d := 2075) (dlt rfl rfl) Ty.sRef17Fate rfl rfl Tryz.underlying146 ty66 rfl rfl) (.cons rfl (ok_assign (dlt rfl rfl) rfl rfl) (.nil ?_)))
   refine ak_seq ?_
   refine ak_seq ?_
   refine ak_regionS (.cons rfl (ok_move (dlt rfl rfl) rfl rfl) (.cons rfl (ok_lenS (τ := Ty.sApiSegment) (xs := a0) (dlt rfl rfl) rfl Tryz.underlying24 rfl) (.cons rfl (ok_move (dlt rfl rfl) rfl rfl) (.nil ?_))))
   refine ak_block ?_
   refine ak_loop ?_
   exact ak_conv (.cons rfl (.refl _) (.cons rfl (.refl _) (.cons rfl (.refl _) (.cons rfl (.refl _) (.cons rfl (.refl _) (.cons rfl (.refl _) (.cons rfl (.refl _) (.cons rfl (.refl _) (.cons rfl (.refl _) (.cons rfl (.refl _) (.cons rfl (.refl _) (.nil _)))))))))))) (.cons rfl (.refl _) (.cons rfl (.refl _) (.cons rfl (.refl _) (.cons rfl (.refl _) (.cons rfl (.refl _) (.nil _)))))) (ih _ _ h w F ρ)
  ·have h := cond_f ht h
   refine ak_exit rfl ?_
   refine ak_seq ?_
   obtain ⟨v7, hv7, h⟩ := bind_of h
   refine ak_regionS (.cons rfl (ok_move (dlt rfl rfl) rfl rfl) (.cons rfl (ok_indexA (dlt rfl rfl) rfl Tryz.underlying146 ty66 rfl rfl rfl (idx_0 hv7) (idx_lt hv7)) (.cons rfl (ok_loadEA (τ := Ty.sRef17Fate) (x := v7) (dlt rfl rfl) rfl ty66 rfl rfl (idx_1 hv7) rfl) (.cons rfl (ok_storeV rfl rfl ty66 rfl rfl rfl rfl (by decide) rfl rfl) (.nil ?_)))))
   obtain rfl := Option.some.inj h
   refine ak_conv (Γ' := [(6, .ref 6 0)]) (σ' := [(6, .cells 66 [.bool v7.may, .int .i64 v7.holds, .int .i64 v7.fails])]) (.cons rfl (.refl _) (.nil _)) (.cons rfl (.refl _) (.nil _)) ?_
   exact ak_ret (fn := Tryz.f31) Tryz.func31 rfl ⟨⟨_, _, _, _, _, _, rfl, rfl, ty66⟩, trivial⟩ rfl
 | l31_3 a0 a1 a2 a3 a4 a5 a6 a7 a8 a9 a10 a11 a12 a13 a14 =>
  intro w F ρ
  dsimp only at h
  refine ak_seq ?_
  refine ak_regionS (.cons rfl (ok_lss (dlt rfl rfl) rfl rfl rfl) (.nil ?_))
  refine ak_seq ?_
  refine ak_cond rfl (fun ht => ?_) (fun ht => ?_)
  ·have h := cond_t ht h
   refine ak_skip ?_
   refine ak_seq ?_
   refine ak_block ?_
   refine ak_seq ?_
   obtain ⟨v8, hv8, h⟩ := bind_of h
   refine ak_regionS (.cons rfl (ok_move (dlt rfl rfl) rfl rfl) (.cons rfl (ok_indexS (τ := Ty.sApiSegment) (x := v8) (dlt rfl rfl) rfl Tryz.underlying24 ty47 rfl rfl rfl (idx_0 hv8) (idx_1 hv8)) (.cons rfl (ok_loadRT (dlt rfl rfl) rfl ty47 rfl (by decide) rfl) (.cons rfl (ok_alloc (d := 16) (dlt rfl rfl) rfl ty47 rfl rfl rfl) (.cons rfl (ok_assign (dlt rfl rfl) rfl rfl) (.cons rfl (ok_storeV rfl rfl ty47 rfl rfl rfl rfl (by decide) rfl rfl) (.nil ?_)))))))
   refine ak_seq ?_
   refine ak_regionS (.cons rfl (ok_loadVT (dlt rfl rfl) rfl ty66 rfl rfl (by decide) rfl) (.cons rfl (ok_alloc (d := 17) (dlt rfl rfl) rfl ty66 rfl rfl rfl) (.cons rfl (ok_storeV rfl rfl ty66 rfl rfl rfl rfl (by decide) rfl rfl) (.nil ?_))))
   refine ak_seq ?_
   refine ak_seq ?_
   refine ak_regionS (.cons rfl (ok_fieldV (dlt rfl rfl) rfl fo47_0 ty4 (by decide) rfl) (.cons rfl (ok_loadV (dlt rfl rfl) rfl ty4 rfl rfl rfl) (.nil ?_)))
   refine ak_cond rfl (fun ht => ?_) (fun ht => ?_)
   ·have h := cond_t ht h
    obtain ⟨v9, hv9, h⟩ := bind_of h
    refine ak_regionS (.cons rfl (ok_move (dlt rfl rfl) rfl rfl) (.cons rfl (ok_move (dlt rfl rfl) rfl rfl) (.cons rfl (ok_indexA (dlt rfl rfl) rfl Tryz.underlying146 ty66 rfl rfl rfl (idx_0 hv9) (idx_lt hv9)) (.cons rfl (ok_loadEA (τ := Ty.sRef17Fate) (x := v9) (dlt rfl rfl) rfl ty66 rfl rfl (idx_1 hv9) rfl) (.cons rfl (ok_storeV rfl rfl ty66 rfl rfl rfl rfl (by decide) rfl rfl) (.nil ?_))))))
    exact ak_conv (.cons rfl (.refl _) (.cons rfl (.refl _) (.cons rfl (.refl _) (.cons rfl (.refl _) (.cons rfl (.refl _) (.cons rfl (.refl _) (.cons rfl (.refl _) (.cons rfl (.refl _) (.cons rfl (.refl _) (.cons rfl (.refl _) (.cons rfl (.refl _) (.cons rfl (.refl _) (.cons rfl (.refl _) (.cons rfl (.refl _) (.nil _))))))))))))))) (.cons rfl (.refl _) (.cons rfl (.refl _) (.cons rfl (.refl _) (.cons rfl (.refl _) (.cons rfl (.refl _) (.cons rfl (.refl _) (.cons rfl (.refl _) (.nil _)))))))) (ih _ _ h w F ρ)
   ·have h := cond_f ht h
    refine ak_skip ?_
    exact ak_conv (.cons rfl (.refl _) (.cons rfl (.refl _) (.cons rfl (.refl _) (.cons rfl (.refl _) (.cons rfl (.refl _) (.cons rfl (.refl _) (.cons rfl (.refl _) (.cons rfl (.refl _) (.cons rfl (.refl _) (.cons rfl (.refl _) (.cons rfl (.refl _) (.cons rfl (.refl _) (.cons rfl (.refl _) (.cons rfl (.refl _) (.nil _))))))))))))))) (.cons rfl (.refl _) (.cons rfl (.refl _) (.cons rfl (.refl _) (.cons rfl (.refl _) (.cons rfl (.refl _) (.cons rfl (.refl _) (.cons rfl (.refl _) (.nil _)))))))) (ih _ _ h w F ρ)
  ·have h := cond_f ht h
   refine ak_exit rfl ?_
   obtain ⟨v10, hv10, h⟩ := bind_of h
   refine ak_regionS (.cons rfl (ok_move (dlt rfl rfl) rfl rfl) (.cons rfl (ok_loadVT (dlt rfl rfl) rfl ty66 rfl rfl (by decide) rfl) (.cons rfl (ok_lit (τ := Ty.sRef17Fate) (dlt rfl rfl) ([(⟨a7, a8, a9⟩ : Ref17Fate)] : List Ref17Fate) rfl Tryz.underlying146 ty66 rfl rfl rfl rfl rfl (by decide) (by decide) rfl) (.cons rfl (ok_appendF (τ := Ty.sRef17Fate) (xs := a6) (ys := ([(⟨a7, a8, a9⟩ : Ref17Fate)] : List Ref17Fate)) (dlt rfl rfl) rfl Tryz.underlying146 ty66 rfl rfl rfl rfl (room_1 hv10) (room_2 hv10)) (.cons rfl (ok_assign (dlt rfl rfl) rfl rfl) (.nil ?_))))))
   refine ak_inBlock ?_
   refine ak_regionS (.cons rfl (ok_move (dlt rfl rfl) rfl rfl) (.cons rfl (ok_sub (dlt rfl rfl) rfl rfl rfl) (.cons rfl (ok_assign (dlt rfl rfl) rfl rfl) (.nil ?_))))
   refine ak_inLoop ?_
   refine ak_conv (Γ' := [(1, .sl Ty.sApiSegment a0), (2, .sl Ty.i64 a1), (6, .ref 6 0), (7, .ref 7 0), (8, .mf 6 2022), (12, .mf 3 2075), (13, .int .i64 (IntKind.wrap .i64 (a2 - (1 : Int))))]) (σ' := [(7, .cells 66 [.bool a7, .int .i64 a8, .int .i64 a9]), (6, .cells 66 [.bool a10, .int .i64 a11, .int .i64 a12]), (2075, .arr 66 Ty.sRef17Fate (a6 ++ ([(⟨a7, a8, a9⟩ : Ref17Fate)] : List Ref17Fate))), (2022, .arr 29 Ty.sApiValue a14)]) (.cons rfl (.refl _) (.cons rfl (.refl _) (.cons rfl (.refl _) (.cons rfl (.refl _) (.cons rfl (.refl _) (.cons rfl (.refl _) (.cons rfl (.refl _) (.nil _)))))))) (.cons rfl (.refl _) (.cons rfl (.refl _) (.cons rfl (.refl _) (.cons rfl (.refl _) (.nil _))))) ?_
   refine ak_ren 2075 2054 rfl rfl rfl rfl ?_
   exact ak_conv (.cons rfl (.refl _) (.cons rfl (.refl _) (.cons rfl (.refl _) (.cons rfl (.refl _) (.cons rfl (.refl _) (.cons rfl (.refl _) (.cons rfl (.refl _) (.nil _)))))))) (.cons rfl (.refl _) (.cons rfl (.refl _) (.cons rfl (.refl _) (.cons rfl (.refl _) (.nil _))))) (ih _ _ h w F ρ)
 | l31_4 a0 a1 a2 a3 a4 a5 a6 a7 a8 a9 a10 a11 a12 a13 a14 a15 a16 a17 =>
  intro w F ρ
  dsimp only at h
  refine ak_seq ?_
  refine ak_seq ?_
  refine ak_regionS (.cons rfl (ok_fieldV (dlt rfl rfl) rfl fo47_1 ty45 (by decide) rfl) (.cons rfl (ok_loadV (dlt rfl rfl) rfl ty45 rfl rfl rfl) (.cons rfl (ok_lenS (τ := Ty.sApiSelector) (xs := a9.selectors) (dlt rfl rfl) rfl Tryz.underlying45 rfl) (.cons rfl (ok_move (dlt rfl rfl) rfl rfl) (.nil ?_)))))
  refine ak_block ?_
  refine ak_loop ?_
  exact ak_conv (.cons rfl (.refl _) (.cons rfl (.refl _) (.cons rfl (.refl _) (.cons rfl (.refl _) (.cons rfl (.refl _) (.cons rfl (.refl _) (.cons rfl (.refl _) (.cons rfl (.refl _) (.cons rfl (.refl _) (.cons rfl (.refl _) (.cons rfl (.refl _) (.cons rfl (.refl _) (.cons rfl (.refl _) (.cons rfl (.refl _) (.cons rfl (.refl _) (.cons rfl (.refl _) (.nil _))))))))))))))))) (.cons rfl (.refl _) (.cons rfl (.refl _) (.cons rfl (.refl _) (.cons rfl (.refl _) (.cons rfl (.refl _) (.cons rfl (.refl _) (.nil _))))))) (ih _ _ h w F ρ)
 | l31_5 a0 a1 a2 a3 a4 a5 a6 a7 a8 a9 a10 a11 a12 a13 a14 a15 a16 a17 a18 a19 =>
  intro w F ρ
  dsimp only at h
  refine ak_seq ?_
  refine ak_regionS (.cons rfl (ok_lss (dlt rfl rfl) rfl rfl rfl) (.nil ?_))
  refine ak_seq ?_
  refine ak_cond rfl (fun ht => ?_) (fun ht => ?_)
  ·have h := cond_t ht h
   refine ak_skip ?_
   refine ak_seq ?_
   refine ak_block ?_
   refine ak_seq ?_
   obtain ⟨v11, hv11, h⟩ := bind_of h
   refine ak_regionS (.cons rfl (ok_indexS (τ := Ty.sApiSelector) (x := v11) (dlt rfl rfl) rfl Tryz.underlying45 ty49 rfl rfl rfl (idx_0 hv11) (idx_1 hv11)) (.cons rfl (ok_loadRT (dlt rfl rfl) rfl ty49 rfl (by decide) rfl) (.cons rfl (ok_alloc (d := 19) (dlt rfl rfl) rfl ty49 rfl rfl rfl) (.cons rfl (ok_storeV rfl rfl ty49 rfl rfl rfl rfl (by decide) rfl rfl) (.nil ?_)))))
   obtain ⟨v12, hv12, h⟩ := bind_of h
   obtain ⟨v13, hv13, h⟩ := bind_of h
   obtain ⟨v14, hv14, h⟩ := bind_of h
   obtain ⟨v15, hv15, h⟩ := bind_of h
   obtain ⟨v16, hv16, h⟩ := bind_of h
   refine ak_drawL [⟨some 97, [(17, .ref 17 0)], none, true, .agg [.bool a11.may, .int .i64 a11.holds, .int .i64 a11.fails], [(17, .cells 66 [.bool a11.may, .int .i64 a11.holds, .int .i64 a11.fails])], []⟩,
  ⟨some 98, [(8, .mf 6 2022)], none, true, .mf 6 2022, [], []⟩,
  ⟨some 99, [(13, .int .i64 a2)], none, true, .int .i64 a2, [], []⟩,
  ⟨some 100, [(98, .mf 6 2022), (99, .int .i64 a2)], none, true, .ar 6 2022 (a2 : Int).toNat 0, [(2022, .arr 29 Ty.sApiValue a19)], []⟩,
  ⟨some 101, [(100, .ar 6 2022 (a2 : Int).toNat 0)], none, true, .agg [.int .i64 v12.kind, .int .i64 v12.frm, .int .i64 v12.to, .str v12.text, .sl Ty.sApiValue v12.items, .sl Ty.str v12.names], [(2022, .arr 29 Ty.sApiValue a19)], []⟩,
  ⟨some 102, [(2, .sl Ty.i64 a1)], none, true, .sl Ty.i64 a1, [], []⟩,
  ⟨some 103, [(13, .int .i64 a2)], none, true, .int .i64 a2, [], []⟩,
  ⟨some 104, [(102, .sl Ty.i64 a1), (103, .int .i64 a2)], none, true, .rp [.int .i64 v13], [], []⟩,
  ⟨some 105, [(104, .rp [.int .i64 v13])], none, true, .int .i64 v13, [], []⟩,
  ⟨some 106, [(19, .ref 19 0)], none, true, .agg [.int .i64 v11.kind, .str v11.name, .int .i64 v11.index, .int .i64 v11.start, .int .i64 v11.stop, .bool v11.hasStart, .bool v11.hasEnd, .int .i64 v11.stride], [(19, .cells 49 [.int .i64 v11.kind, .str v11.name, .int .i64 v11.index, .int .i64 v11.start, .int .i64 v11.stop, .bool v11.hasStart, .bool v11.hasEnd, .int .i64 v11.stride])], []⟩,
  ⟨some 107, [(12, .mf 3 2054)], none, true, .mf 3 2054, [], []⟩,
  ⟨some 108, [(15, .int .i64 a3)], none, true, .int .i64 a3, [], []⟩,
  ⟨some 109, [(108, .int .i64 a3)], none, true, .int .i64 (IntKind.wrap .i64 (a3 + (1 : Int))), [], []⟩,
  ⟨some 110, [(107, .mf 3 2054), (109, .int .i64 (IntKind.wrap .i64 (a3 + (1 : Int))))], none, true, .ar 3 2054 (IntKind.wrap .i64 (a3 + (1 : Int)) : Int).toNat 0, [(2054, .arr 66 Ty.sRef17Fate a18)], []⟩,
  ⟨some 111, [(110, .ar 3 2054 (IntKind.wrap .i64 (a3 + (1 : Int)) : Int).toNat 0)], none, true, .agg [.bool v14.may, .int .i64 v14.holds, .int .i64 v14.fails], [(2054, .arr 66 Ty.sRef17Fate a18)], []⟩,
  ⟨some 112, [(101, .agg [.int .i64 v12.kind, .int .i64 v12.frm, .int .i64 v12.to, .str v12.text, .sl Ty.sApiValue v12.items, .sl Ty.str v12.names]), (105, .int .i64 v13), (106, .agg [.int .i64 v11.kind, .str v11.name, .int .i64 v11.index, .int .i64 v11.start, .int .i64 v11.stop, .bool v11.hasStart, .bool v11.hasEnd, .int .i64 v11.stride]), (111, .agg [.bool v14.may, .int .i64 v14.holds, .int .i64 v14.fails])], none, true, .agg [.bool v15.may, .int .i64 v15.holds, .int .i64 v15.fails], [], []⟩,
  ⟨some 113, [(97, .agg [.bool a11.may, .int .i64 a11.holds, .int .i64 a11.fails]), (112, .agg [.bool v15.may, .int .i64 v15.holds, .int .i64 v15.fails])], none, true, .agg [.bool v16.may, .int .i64 v16.holds, .int .i64 v16.fails], [], []⟩,
  ⟨none, [(17, .ref 17 0), (113, .agg [.bool v16.may, .int .i64 v16.holds, .int .i64 v16.fails])], none, true, .undef, [(17, .cells 66 [.bool a11.may, .int .i64 a11.holds, .int .i64 a11.fails])], [(17, .cells 66 [.bool v16.may, .int .i64 v16.holds, .int .i64 v16.fails])]⟩] [[], [], [], [1, 2], [1, 2, 3], [], [], [5, 6], [5, 6, 7], [], [], [], [11], [10, 11, 12], [10, 11, 12, 13], [1, 2, 3, 4, 5, 6, 7, 8, 9, 10, 11, 12, 13, 14], [0, 1, 2, 3, 4, 5, 6, 7, 8, 9, 10, 11, 12, 13, 14, 15], [0, 1, 2, 3, 4, 5, 6, 7, 8, 9, 10, 11, 12, 13, 14, 15, 16]] (by kernel_rfl) (by kernel_rfl) (.cons (qok (dlt rfl rfl) rfl (.same rfl .nil) (NeedQ.all (.cons rfl .nil)) (fun Γx σx => ok_loadVT (dlt rfl rfl) rfl ty66 rfl rfl (by decide) rfl)) (.cons (qok (dlt rfl rfl) rfl (.same rfl .nil) (NeedQ.all .nil) (fun Γx σx => ok_move (dlt rfl rfl) rfl rfl)) (.cons (qok (dlt rfl rfl) rfl (.same rfl .nil) (NeedQ.all .nil) (fun Γx σx => ok_move (dlt rfl rfl) rfl rfl)) (.cons (qok (dlt rfl rfl) rfl (.same rfl (.same rfl .nil)) (NeedQ.all (.cons rfl .nil)) (fun Γx σx => ok_indexA (dlt rfl rfl) rfl Tryz.underlying26 ty29 rfl rfl rfl (idx_0 hv12) (idx_lt hv12))) (.cons (qok (dlt rfl rfl) rfl (.same rfl .nil) (NeedQ.all (.cons rfl .nil)) (fun Γx σx => ok_loadEA (τ := Ty.sApiValue) (x := v12) (dlt rfl rfl) rfl ty29 rfl rfl (idx_1 hv12) rfl)) (.cons (qok (dlt rfl rfl) rfl (.same rfl .nil) (NeedQ.all .nil) (fun Γx σx => ok_move (dlt rfl rfl) rfl rfl)) (.cons (qok (dlt rfl rfl) rfl (.same rfl .nil) (NeedQ.all .nil) (fun Γx σx => ok_move (dlt rfl rfl) rfl rfl)) (.cons (qok (dlt rfl rfl) rfl (.same rfl (.same rfl .nil)) (NeedQ.all .nil) (fun Γx σx => ok_indexS (τ := Ty.i64) (x := v13) (dlt rfl rfl) rfl Tryz.underlying50 ty3 rfl rfl rfl (idx_0 hv13) (idx_1 hv13))) (.cons (qok (dlt rfl rfl) rfl (.same rfl .nil) (NeedQ.all .nil) (fun Γx σx => ok_loadR (dlt rfl rfl) rfl ty3 rfl rfl)) (.cons (qok (dlt rfl rfl) rfl (.same rfl .nil) (NeedQ.all (.cons rfl .nil)) (fun Γx σx => ok_loadVT (dlt rfl rfl) rfl ty49 rfl rfl (by decide) rfl)) (.cons (qok (dlt rfl rfl) rfl (.same rfl .nil) (NeedQ.all .nil) (fun Γx σx => ok_move (dlt rfl rfl) rfl rfl)) (.cons (qok (dlt rfl rfl) rfl (.same rfl .nil) (NeedQ.all .nil) (fun Γx σx => ok_move (dlt rfl rfl) rfl rfl)) (.cons (qok (dlt rfl rfl) rfl (.same rfl .nil) (NeedQ.all .nil) (fun Γx σx => ok_add (dlt rfl rfl) rfl rfl rfl)) (.cons (qok (dlt rfl rfl) rfl (.same rfl (.same rfl .nil)) (NeedQ.all (.cons rfl .nil)) (fun Γx σx => ok_indexA (dlt rfl rfl) rfl Tryz.underlying146 ty66 rfl rfl rfl (idx_0 hv14) (idx_lt hv14))) (.cons (qok (dlt rfl rfl) rfl (.same rfl .nil) (NeedQ.all (.cons rfl .nil)) (fun Γx σx => ok_loadEA (τ := Ty.sRef17Fate) (x := v14) (dlt rfl rfl) rfl ty66 rfl rfl (idx_1 hv14) rfl)) (.cons (qok (dlt rfl rfl) rfl (.same rfl (.same rfl (.same rfl (.same rfl .nil)))) (NeedQ.all .nil) (fun Γx σx => ok_call (xs := [.agg [.int .i64 v12.kind, .int .i64 v12.frm, .int .i64 v12.to, .str v12.text, .sl Ty.sApiValue v12.items, .sl Ty.str v12.names], .int .i64 v13, .agg [.int .i64 v11.kind, .str v11.name, .int .i64 v11.index, .int .i64 v11.start, .int .i64 v11.stop, .bool v11.hasStart, .bool v11.hasEnd, .int .i64 v11.stride], .agg [.bool v14.may, .int .i64 v14.holds, .int .i64 v14.fails]]) (caps := []) (dlt rfl rfl) rfl rfl Tryz.func87 rfl rfl rfl (d87 hv15) rfl)) (.cons (qok (dlt rfl rfl) rfl (.same rfl (.same rfl .nil)) (NeedQ.all .nil) (fun Γx σx => ok_call (xs := [.agg [.bool a11.may, .int .i64 a11.holds, .int .i64 a11.fails], .agg [.bool v15.may, .int .i64 v15.holds, .int .i64 v15.fails]]) (caps := []) (dlt rfl rfl) rfl rfl Tryz.func86 rfl rfl rfl (d86 hv16) rfl)) (.cons (qokN (nodst rfl) rfl (.same rfl (.same rfl .nil)) (NeedQ.all (.cons rfl .nil)) (fresh0 rfl) (fun Γx σx hfr => ok_storeV rfl rfl ty66 rfl rfl rfl rfl (by decide) rfl rfl)) (.nil _ _))))))))))))))))))) (.nil ?_)
   refine ak_inBlock ?_
   refine ak_regionS (.cons rfl (ok_add (dlt rfl rfl) rfl rfl rfl) (.cons rfl (ok_move (dlt rfl rfl) rfl rfl) (.nil ?_)))
   refine ak_inLoop ?_
   exact ak_conv (.cons rfl (.refl _) (.cons rfl (.refl _) (.cons rfl (.refl _) (.cons rfl (.refl _) (.cons rfl (.refl _) (.cons rfl (.refl _) (.cons rfl (.refl _) (.cons rfl (.refl _) (.cons rfl (.refl _) (.cons rfl (.refl _) (.cons rfl (.refl _) (.cons rfl (.refl _) (.cons rfl (.refl _) (.cons rfl (.refl _) (.cons rfl (.refl _) (.cons rfl (.refl _) (.nil _))))))))))))))))) (.cons rfl (.refl _) (.cons rfl (.refl _) (.cons rfl (.refl _) (.cons rfl (.refl _) (.cons rfl (.refl _) (.cons rfl (.refl _) (.nil _))))))) (ih _ _ h w F ρ)
  ·have h := cond_f ht h
   refine ak_exit rfl ?_
   obtain ⟨v17, hv17, h⟩ := bind_of h
   refine ak_regionS (.cons rfl (ok_move (dlt rfl rfl) rfl rfl) (.cons rfl (ok_loadVT (dlt rfl rfl) rfl ty66 rfl rfl (by decide) rfl) (.cons rfl (ok_lit (τ := Ty.sRef17Fate) (dlt rfl rfl) ([a11] : List Ref17Fate) rfl Tryz.underlying146 ty66 rfl rfl rfl rfl rfl (by decide) (by decide) rfl) (.cons rfl (ok_appendF (τ := Ty.sRef17Fate) (xs := a10) (ys := ([a11] : List Ref17Fate)) (dlt rfl rfl) rfl Tryz.underlying146 ty66 rfl rfl rfl rfl (room_1 hv17) (room_2 hv17)) (.cons rfl (ok_assign (dlt rfl rfl) rfl rfl) (.nil ?_))))))
   refine ak_inBlock ?_
   refine ak_regionS (.cons rfl (ok_add (dlt rfl rfl) rfl rfl rfl) (.cons rfl (ok_move (dlt rfl rfl) rfl rfl) (.nil ?_)))
   refine ak_inLoop ?_
   exact ak_conv (.cons rfl (.refl _) (.cons rfl (.refl _) (.cons rfl (.refl _) (.cons rfl (.refl _) (.cons rfl (.refl _) (.cons rfl (.refl _) (.cons rfl (.refl _) (.cons rfl (.refl _) (.cons rfl (.refl _) (.cons rfl (.refl _) (.cons rfl (.refl _) (.nil _)))))))))))) (.cons rfl (.refl _) (.cons rfl (.refl _) (.cons rfl (.refl _) (.cons rfl (.refl _) (.cons rfl (.refl _) (.nil _)))))) (ih _ _ h w F ρ))
theorem d31 {a0 : ApiValue} {a1 : List ApiSegment} {a2 : List Int} {r : Ref17Fate} (h : f31 (.e31 a0 a1 a2) = some r) : Does Tryz.prog GG 31 [.agg [.int .i64 a0.kind, .int .i64 a0.frm, .int .i64 a0.to, .str a0.text, .sl Ty.sApiValue a0.items, .sl Ty.str a0.names], .sl Ty.sApiSegment a1, .sl Ty.i64 a2] [] (fun z _ => z = .agg [.bool r.may, .int .i64 r.holds, .int .i64 r.fails]) := fn_of (fn := Tryz.f31) Tryz.func31 rfl Tryz.ntmps31 rfl (w31 _ _ h)
end Go.Proofs.YtonlbdholdaifaaGreatDoor
end
section
set_option linter.unusedVariables false
set_option linter.unusedSimpArgs false
set_option maxRecDepth 10000
namespace Go.Proofs.YtonlbdholdaifaaGreatDoor
open Go Go.Rf Go.Proofs
/-- riffle/rifflelaw17.HangFates -/
noncomputable abbrev b6 : Code := codeOf Tryz.f6
inductive L6 where
 | e6 (a0 : List UInt8) (a1 : List ApiSegment) (a2 : Bool)
 | l6_0 (a0 : List ApiSegment) (a1 : List (List Int)) (a2 : Int) (a3 : Int) (a4 : ApiValue)
noncomputable def f6 : L6 → Option Bool
 | .e6 a0 a1 a2 =>
  f26 (.e26) >>= fun v1 =>
  if (!v1) = true then
   some false
  else
   gd (!(decide ((200 : Int) < (a0.length : Int)))) (f27 (.e27 ([a1] : List (List ApiSegment)))) >>= fun v2 =>
   if ((decide ((200 : Int) < (a0.length : Int))) || (v2 == (0 : Int))) = true then
    some true
   else
    f28 (.e28 a0 (12 : Int) a2) >>= fun v3 =>
    if (!v3.2.1) = true then
     some true
    else
     f29 (.e29 (⟨v3.1, ([] : List ApiStep)⟩ : Ref16Node) ([] : List Int)) >>= fun v4 =>
     f6 (.l6_0 a1 v4.2 (v4.2.length : Int) (0 : Int) v3.1)
 | .l6_0 a0 a1 a2 a3 a4 =>
  if (decide (a3 < a2)) = true then
   idx a1 a3 >>= fun v5 =>
   f30 (.e30 a4 a0 v5) >>= fun v6 =>
   f31 (.e31 a4 a0 v5) >>= fun v7 =>
   if (!(v6.may == v7.may && (v6.holds == v7.holds && (v6.fails == v7.fails && true)))) = true then
    some false
   else
    f6 (.l6_0 a0 a1 a2 (IntKind.wrap .i64 (a3 + (1 : Int))) a4)
  else
   f30 (.e30 a4 a0 ([(-1)] : List Int)) >>= fun v8 =>
   gd (v8.may == false && (v8.holds == (-1) && (v8.fails == (-1) && true))) (f30 (.e30 a4 a0 ([(a4.items.length : Int)] : List Int))) >>= fun v9 =>
   some ((v8.may == false && (v8.holds == (-1) && (v8.fails == (-1) && true))) && (v9.may == false && (v9.holds == (-1) && (v9.fails == (-1) && true))))
 partial_fixpoint
def M6 : L6 → Bool → Prop
 | .e6 a0 a1 a2, r => ∀ (w : World) (F : Nat → Prop) (ρ : Rho), AK Tryz.prog (ctx GG 74 w F ρ []) 6 [.code b6] (argE 0 [.sl Ty.u8 a0, .sl Ty.sApiSegment a1, .bool a2]) [] (fun z _ => z = .bool r)
 | .l6_0 a0 a1 a2 a3 a4, r => ∀ (w : World) (F : Nat → Prop) (ρ : Rho), AK Tryz.prog (ctx GG 74 w F ρ []) 6 [.code (c1 (c1 (c2 (c1 (c2 (c2 (c2 (c2 (c2 (c2 b6)))))))))), .inLoop (c1 (c1 (c2 (c1 (c2 (c2 (c2 (c2 (c2 (c2 b6)))))))))), .inBlock 0, .code (c2 (c2 (c2 (c2 (c2 (c2 (c2 b6)))))))] [(1, .sl Ty.sApiSegment a0), (7, .ref 7 0), (41, .sl Ty.li64 a1), (42, .int .i64 a2), (43, .int .i64 a3)] [(7, .cells 29 [.int .i64 a4.kind, .int .i64 a4.frm, .int .i64 a4.to, .str a4.text, .sl Ty.sApiValue a4.items, .sl Ty.str a4.names])] (fun z _ => z = .bool r)
theorem w6 : ∀ (l : L6) (r : Bool), f6 l = some r → M6 l r := f6.partial_correctness M6 (by
 intro f ih l r h
 cases l with
 | e6 a0 a1 a2 =>
  intro w F ρ
  dsimp only at h
  refine ak_seq ?_
  refine ak_regionS (.cons rfl (ok_assign (dlt rfl rfl) rfl rfl) (.nil ?_))
  refine ak_seq ?_
  refine ak_seq ?_
  obtain ⟨v1, hv1, h⟩ := bind_of h
  refine ak_regionS (.cons rfl (ok_call (xs := []) (caps := []) (dlt rfl rfl) rfl rfl Tryz.func26 rfl rfl rfl (d26 hv1) rfl) (.cons rfl (ok_not (dlt rfl rfl) rfl rfl) (.nil ?_)))
  refine ak_cond rfl (fun ht => ?_) (fun ht => ?_)
  ·have h := cond_t ht h
   refine ak_seq ?_
   refine ak_regionS (.cons rfl (ok_assign (dlt rfl rfl) rfl rfl) (.nil ?_))
   obtain rfl := Option.some.inj h
   refine ak_conv (Γ' := [(6, .bool false)]) (σ' := []) (.cons rfl (.refl _) (.nil _)) (.nil _) ?_
   exact ak_ret (fn := Tryz.f6) Tryz.func6 rfl trivial rfl
  ·have h := cond_f ht h
   refine ak_skip ?_
   refine ak_seq ?_
   refine ak_seq ?_
   obtain ⟨v2, hv2, h⟩ := bind_of h
   refine ak_regionS (.cons rfl (ok_move (dlt rfl rfl) rfl rfl) (.cons rfl (ok_lenS (τ := Ty.u8) (xs := a0) (dlt rfl rfl) rfl Tryz.underlying22 rfl) (.cons rfl (ok_gtr (dlt rfl rfl) rfl rfl rfl) (.cons rfl (ok_move (dlt rfl rfl) rfl rfl) (.consG (pre := []) (dlt rfl rfl) rfl rfl rfl rfl .nil (fun he => ok_move (dlt rfl rfl) rfl rfl) (.consG (pre := [(20, .sl Ty.sApiSegment a1)]) (dlt rfl rfl) rfl rfl rfl rfl (.cons rfl (fun he => he) .nil) (fun he => ok_lit (τ := Ty.lsApiSegment) (dlt rfl rfl) ([a1] : List (List ApiSegment)) rfl Tryz.underlying55 ty24 rfl rfl rfl rfl rfl (by decide) (by decide) rfl) (.consG (pre := [(21, .sf Ty.lsApiSegment ([a1] : List (List ApiSegment)))]) (dlt rfl rfl) rfl rfl rfl rfl (.cons rfl (fun he => he) .nil) (fun he => ok_call (xs := [.sf Ty.lsApiSegment ([a1] : List (List ApiSegment))]) (caps := []) (dlt rfl rfl) rfl rfl Tryz.func27 rfl rfl rfl (Does.sub (d27 (gd_t hv2 he)) (.cons (sub_sf Ty.lsApiSegment _) (.nil))) rfl) (.consG (pre := [(22, .int .i64 v2)]) (dlt rfl rfl) rfl rfl rfl rfl (.cons rfl (fun he => he) .nil) (fun he => ok_eql (dlt rfl rfl) rfl rfl rfl) (.cons rfl (ok_orW (dlt rfl rfl) rfl rfl rfl (fun h => (bnot_t h))) (.nil ?_))))))))))
   refine ak_cond rfl (fun ht => ?_) (fun ht => ?_)
   ·have h := cond_t ht h
    refine ak_seq ?_
    refine ak_regionS (.cons rfl (ok_assign (dlt rfl rfl) rfl rfl) (.nil ?_))
    obtain rfl := Option.some.inj h
    refine ak_conv (Γ' := [(6, .bool true)]) (σ' := []) (.cons rfl (.refl _) (.nil _)) (.nil _) ?_
    exact ak_ret (fn := Tryz.f6) Tryz.func6 rfl trivial rfl
   ·have h := cond_f ht h
    refine ak_skip ?_
    refine ak_seq ?_
    obtain ⟨v3, hv3, h⟩ := bind_of h
    refine ak_regionS (.cons rfl (ok_move (dlt rfl rfl) rfl rfl) (.cons rfl (ok_bytesS (τ := Ty.u8) (xs := a0) (dlt rfl rfl) (fun x => x) rfl Tryz.underlying22 Tryz.underlying5 Tryz.underlying9 (fun _ => rfl) rfl (map_idf _) rfl) (.cons rfl (ok_move (dlt rfl rfl) rfl rfl) (.cons rfl (ok_call (xs := [.str a0, .int .i64 (12 : Int), .bool a2]) (caps := []) (dlt rfl rfl) rfl rfl Tryz.func28 rfl rfl rfl (d28 hv3) rfl) (.cons rfl (ok_move (dlt rfl rfl) rfl rfl) (.cons rfl (ok_extract (dlt rfl rfl) rfl rfl rfl) (.cons rfl (ok_extract (dlt rfl rfl) rfl rfl rfl) (.cons rfl (ok_extract (dlt rfl rfl) rfl rfl rfl) (.cons rfl (ok_alloc (d := 7) (dlt rfl rfl) rfl ty29 rfl rfl rfl) (.cons rfl (ok_alloc (d := 9) (dlt rfl rfl) rfl ty57 rfl rfl rfl) (.cons rfl (ok_storeV rfl rfl ty29 rfl rfl rfl rfl (by decide) rfl rfl) (.cons rfl (ok_assign (dlt rfl rfl) rfl rfl) (.cons rfl (ok_storeV rfl rfl ty57 rfl rfl rfl rfl (by decide) rfl rfl) (.nil ?_))))))))))))))
    refine ak_seq ?_
    refine ak_seq ?_
    refine ak_regionS (.cons rfl (ok_move (dlt rfl rfl) rfl rfl) (.cons rfl (ok_not (dlt rfl rfl) rfl rfl) (.nil ?_)))
    refine ak_cond rfl (fun ht => ?_) (fun ht => ?_)
    ·have h := cond_t ht h
     refine ak_seq ?_
     refine ak_regionS (.cons rfl (ok_assign (dlt rfl rfl) rfl rfl) (.nil ?_))
     obtain rfl := Option.some.inj h
     refine ak_conv (Γ' := [(6, .bool true)]) (σ' := []) (.cons rfl (.refl _) (.nil _)) (.nil _) ?_
     exact ak_ret (fn := Tryz.f6) Tryz.func6 rfl trivial rfl
    ·have h := cond_f ht h
     refine ak_skip ?_
     refine ak_seq ?_
     obtain ⟨v4, hv4, h⟩ := bind_of h
     refine ak_regionS (.cons rfl (ok_loadVT (dlt rfl rfl) rfl ty29 rfl rfl (by decide) rfl) (.cons rfl (ok_build (dlt rfl rfl) rfl ty64 rfl pl64 rfl rfl rfl) (.cons rfl (ok_call (xs := [.agg [.int .i64 v3.1.kind, .int .i64 v3.1.frm, .int .i64 v3.1.to, .str v3.1.text, .sl Ty.sApiValue v3.1.items, .sl Ty.str v3.1.names, .nils], .nils]) (caps := []) (dlt rfl rfl) rfl rfl Tryz.func29 rfl rfl rfl (Does.sub (d29 hv4) (.cons (sub_agg (.cons (.refl _) (.cons (.refl _) (.cons (.refl _) (.cons (.refl _) (.cons (.refl _) (.cons (.refl _) (.cons (sub_nils Ty.sApiStep) (.nil))))))))) (.cons (sub_nils Ty.i64) (.nil)))) rfl) (.cons rfl (ok_move (dlt rfl rfl) rfl rfl) (.cons rfl (ok_extract (dlt rfl rfl) rfl rfl rfl) (.cons rfl (ok_extract (dlt rfl rfl) rfl rfl rfl) (.cons rfl (ok_assign (dlt rfl rfl) rfl rfl) (.cons rfl (ok_assign (dlt rfl rfl) rfl rfl) (.nil ?_)))))))))
     refine ak_seq ?_
     refine ak_seq ?_
     refine ak_regionS (.cons rfl (ok_move (dlt rfl rfl) rfl rfl) (.cons rfl (ok_lenS (τ := Ty.li64) (xs := v4.2) (dlt rfl rfl) rfl Tryz.underlying60 rfl) (.cons rfl (ok_move (dlt rfl rfl) rfl rfl) (.nil ?_))))
     refine ak_block ?_
     refine ak_loop ?_
     exact ak_conv (.cons rfl (.refl _) (.cons rfl (.refl _) (.cons rfl (.refl _) (.cons rfl (.refl _) (.cons rfl (.refl _) (.nil _)))))) (.cons rfl (.refl _) (.nil _)) (ih _ _ h w F ρ)
 | l6_0 a0 a1 a2 a3 a4 =>
  intro w F ρ
  dsimp only at h
  refine ak_seq ?_
  refine ak_regionS (.cons rfl (ok_lss (dlt rfl rfl) rfl rfl rfl) (.nil ?_))
  refine ak_seq ?_
  refine ak_cond rfl (fun ht => ?_) (fun ht => ?_)
  ·have h := cond_t ht h
   refine ak_skip ?_
   refine ak_seq ?_
   refine ak_block ?_
   refine ak_seq ?_
   obtain ⟨v5, hv5, h⟩ := bind_of h
   refine ak_regionS (.cons rfl (ok_indexS (τ := Ty.li64) (x := v5) (dlt rfl rfl) rfl Tryz.underlying60 ty50 rfl rfl rfl (idx_0 hv5) (idx_1 hv5)) (.cons rfl (ok_loadR (dlt rfl rfl) rfl ty50 rfl rfl) (.cons rfl (ok_assign (dlt rfl rfl) rfl rfl) (.nil ?_))))
   refine ak_seq ?_
   obtain ⟨v6, hv6, h⟩ := bind_of h
   obtain ⟨v7, hv7, h⟩ := bind_of h
   refine ak_drawL [⟨some 47, [(7, .ref 7 0)], none, true, .agg [.int .i64 a4.kind, .int .i64 a4.frm, .int .i64 a4.to, .str a4.text, .sl Ty.sApiValue a4.items, .sl Ty.str a4.names], [(7, .cells 29 [.int .i64 a4.kind, .int .i64 a4.frm, .int .i64 a4.to, .str a4.text, .sl Ty.sApiValue a4.items, .sl Ty.str a4.names])], []⟩,
  ⟨some 48, [(1, .sl Ty.sApiSegment a0)], none, true, .sl Ty.sApiSegment a0, [], []⟩,
  ⟨some 49, [(13, .sl Ty.i64 v5)], none, true, .sl Ty.i64 v5, [], []⟩,
  ⟨some 50, [(47, .agg [.int .i64 a4.kind, .int .i64 a4.frm, .int .i64 a4.to, .str a4.text, .sl Ty.sApiValue a4.items, .sl Ty.str a4.names]), (48, .sl Ty.sApiSegment a0), (49, .sl Ty.i64 v5)], none, true, .agg [.bool v6.may, .int .i64 v6.holds, .int .i64 v6.fails], [], []⟩,
  ⟨some 51, [(7, .ref 7 0)], none, true, .agg [.int .i64 a4.kind, .int .i64 a4.frm, .int .i64 a4.to, .str a4.text, .sl Ty.sApiValue a4.items, .sl Ty.str a4.names], [(7, .cells 29 [.int .i64 a4.kind, .int .i64 a4.frm, .int .i64 a4.to, .str a4.text, .sl Ty.sApiValue a4.items, .sl Ty.str a4.names])], []⟩,
  ⟨some 52, [(1, .sl Ty.sApiSegment a0)], none, true, .sl Ty.sApiSegment a0, [], []⟩,
  ⟨some 53, [(13, .sl Ty.i64 v5)], none, true, .sl Ty.i64 v5, [], []⟩,
  ⟨some 54, [(51, .agg [.int .i64 a4.kind, .int .i64 a4.frm, .int .i64 a4.to, .str a4.text, .sl Ty.sApiValue a4.items, .sl Ty.str a4.names]), (52, .sl Ty.sApiSegment a0), (53, .sl Ty.i64 v5)], none, true, .agg [.bool v7.may, .int .i64 v7.holds, .int .i64 v7.fails], [], []⟩,
  ⟨some 55, [(50, .agg [.bool v6.may, .int .i64 v6.holds, .int .i64 v6.fails]), (54, .agg [.bool v7.may, .int .i64 v7.holds, .int .i64 v7.fails])], none, true, .bool (!(v6.may == v7.may && (v6.holds == v7.holds && (v6.fails == v7.fails && true)))), [], []⟩] [[], [], [], [0, 1, 2], [], [], [], [0, 1, 2, 3, 4, 5, 6], [0, 1, 2, 3, 4, 5, 6, 7]] (by kernel_rfl) (by kernel_rfl) (.cons (qok (dlt rfl rfl) rfl (.same rfl .nil) (NeedQ.all (.cons rfl .nil)) (fun Γx σx => ok_loadVT (dlt rfl rfl) rfl ty29 rfl rfl (by decide) rfl)) (.cons (qok (dlt rfl rfl) rfl (.same rfl .nil) (NeedQ.all .nil) (fun Γx σx => ok_move (dlt rfl rfl) rfl rfl)) (.cons (qok (dlt rfl rfl) rfl (.same rfl .nil) (NeedQ.all .nil) (fun Γx σx => ok_move (dlt rfl rfl) rfl rfl)) (.cons (qok (dlt rfl rfl) rfl (.same rfl (.same rfl (.same rfl .nil))) (NeedQ.all .nil) (fun Γx σx => ok_call (xs := [.agg [.int .i64 a4.kind, .int .i64 a4.frm, .int .i64 a4.to, .str a4.text, .sl Ty.sApiValue a4.items, .sl Ty.str a4.names], .sl Ty.sApiSegment a0, .sl Ty.i64 v5]) (caps := []) (dlt rfl rfl) rfl rfl Tryz.func30 rfl rfl rfl (d30 hv6) rfl)) (.cons (qok (dlt rfl rfl) rfl (.same rfl .nil) (NeedQ.all (.cons rfl .nil)) (fun Γx σx => ok_loadVT (dlt rfl rfl) rfl ty29 rfl rfl (by decide) rfl)) (.cons (qok (dlt rfl rfl) rfl (.same rfl .nil) (NeedQ.all .nil) (fun Γx σx => ok_move (dlt rfl rfl) rfl rfl)) (.cons (qok (dlt rfl rfl) rfl (.same rfl .nil) (NeedQ.all .nil) (fun Γx σx => ok_move (dlt rfl rfl) rfl rfl)) (.cons (qok (dlt rfl rfl) rfl (.same rfl (.same rfl (.same rfl .nil))) (NeedQ.all .nil) (fun Γx σx => ok_call (xs := [.agg [.int .i64 a4.kind, .int .i64 a4.frm, .int .i64 a4.to, .str a4.text, .sl Ty.sApiValue a4.items, .sl Ty.str a4.names], .sl Ty.sApiSegment a0, .sl Ty.i64 v5]) (caps := []) (dlt rfl rfl) rfl rfl Tryz.func31 rfl rfl rfl (d31 hv7) rfl)) (.cons (qok (dlt rfl rfl) rfl (.same rfl (.same rfl .nil)) (NeedQ.all .nil) (fun Γx σx => ok_neqA (cs := [.bool v6.may, .int .i64 v6.holds, .int .i64 v6.fails]) (ds := [.bool v7.may, .int .i64 v7.holds, .int .i64 v7.fails]) (dlt rfl rfl) rfl fl66 rfl rfl (by kernel_rfl))) (.nil _ _)))))))))) (.nil ?_)
   refine ak_cond rfl (fun ht => ?_) (fun ht => ?_)
   ·have h := cond_t ht h
    refine ak_seq ?_
    refine ak_regionS (.cons rfl (ok_assign (dlt rfl rfl) rfl rfl) (.nil ?_))
    obtain rfl := Option.some.inj h
    refine ak_conv (Γ' := [(6, .bool false)]) (σ' := []) (.cons rfl (.refl _) (.nil _)) (.nil _) ?_
    exact ak_ret (fn := Tryz.f6) Tryz.func6 rfl trivial rfl
   ·have h := cond_f ht h
    refine ak_skip ?_
    refine ak_inBlock ?_
    refine ak_regionS (.cons rfl (ok_add (dlt rfl rfl) rfl rfl rfl) (.cons rfl (ok_move (dlt rfl rfl) rfl rfl) (.nil ?_)))
    refine ak_inLoop ?_
    exact ak_conv (.cons rfl (.refl _) (.cons rfl (.refl _) (.cons rfl (.refl _) (.cons rfl (.refl _) (.cons rfl (.refl _) (.nil _)))))) (.cons rfl (.refl _) (.nil _)) (ih _ _ h w F ρ)
  ·have h := cond_f ht h
   refine ak_exit rfl ?_
   refine ak_seq ?_
   obtain ⟨v8, hv8, h⟩ := bind_of h
   obtain ⟨v9, hv9, h⟩ := bind_of h
   refine ak_regionS (.cons rfl (ok_loadVT (dlt rfl rfl) rfl ty29 rfl rfl (by decide) rfl) (.cons rfl (ok_move (dlt rfl rfl) rfl rfl) (.cons rfl (ok_lit (τ := Ty.i64) (dlt rfl rfl) ([(-1)] : List Int) rfl Tryz.underlying50 ty3 rfl rfl rfl rfl rfl (by decide) (by decide) rfl) (.cons rfl (ok_call (xs := [.agg [.int .i64 a4.kind, .int .i64 a4.frm, .int .i64 a4.to, .str a4.text, .sl Ty.sApiValue a4.items, .sl Ty.str a4.names], .sl Ty.sApiSegment a0, .sf Ty.i64 ([(-1)] : List Int)]) (caps := []) (dlt rfl rfl) rfl rfl Tryz.func30 rfl rfl rfl (Does.sub (d30 hv8) (.cons (.refl _) (.cons (.refl _) (.cons (sub_sf Ty.i64 _) (.nil))))) rfl) (.cons rfl (ok_build (dlt rfl rfl) rfl ty67 rfl pl67 rfl rfl rfl) (.cons rfl (ok_eqlA (cs := [.bool v8.may, .int .i64 v8.holds, .int .i64 v8.fails]) (ds := [.bool false, .int .i64 (-1), .int .i64 (-1)]) (dlt rfl rfl) rfl fl67 rfl rfl (by kernel_rfl)) (.cons rfl (ok_move (dlt rfl rfl) rfl rfl) (.consG (pre := []) (dlt rfl rfl) rfl rfl rfl rfl .nil (fun he => ok_loadVT (dlt rfl rfl) rfl ty29 rfl rfl (by decide) rfl) (.consG (pre := []) (dlt rfl rfl) rfl rfl rfl rfl .nil (fun he => ok_move (dlt rfl rfl) rfl rfl) (.consG (pre := []) (dlt rfl rfl) rfl rfl rfl rfl .nil (fun he => ok_fieldV (dlt rfl rfl) rfl fo29_4 ty26 (by decide) rfl) (.consG (pre := [(66, .ref 7 4)]) (dlt rfl rfl) rfl rfl rfl rfl (.cons rfl (fun he => he) .nil) (fun he => ok_loadV (dlt rfl rfl) rfl ty26 rfl rfl rfl) (.consG (pre := [(67, .sl Ty.sApiValue a4.items)]) (dlt rfl rfl) rfl rfl rfl rfl (.cons rfl (fun he => he) .nil) (fun he => ok_lenS (τ := Ty.sApiValue) (xs := a4.items) (dlt rfl rfl) rfl Tryz.underlying26 rfl) (.consG (pre := [(68, .int .i64 (a4.items.length : Int))]) (dlt rfl rfl) rfl rfl rfl rfl (.cons rfl (fun he => he) .nil) (fun he => ok_lit (τ := Ty.i64) (dlt rfl rfl) ([(a4.items.length : Int)] : List Int) rfl Tryz.underlying50 ty3 rfl rfl rfl rfl rfl (by decide) (by decide) rfl) (.consG (pre := [(64, .agg [.int .i64 a4.kind, .int .i64 a4.frm, .int .i64 a4.to, .str a4.text, .sl Ty.sApiValue a4.items, .sl Ty.str a4.names]), (65, .sl Ty.sApiSegment a0), (69, .sf Ty.i64 ([(a4.items.length : Int)] : List Int))]) (dlt rfl rfl) rfl rfl rfl rfl (.cons rfl (fun he => he) (.cons rfl (fun he => he) (.cons rfl (fun he => he) .nil))) (fun he => ok_call (xs := [.agg [.int .i64 a4.kind, .int .i64 a4.frm, .int .i64 a4.to, .str a4.text, .sl Ty.sApiValue a4.items, .sl Ty.str a4.names], .sl Ty.sApiSegment a0, .sf Ty.i64 ([(a4.items.length : Int)] : List Int)]) (caps := []) (dlt rfl rfl) rfl rfl Tryz.func30 rfl rfl rfl (Does.sub (d30 (gd_t hv9 he)) (.cons (.refl _) (.cons (.refl _) (.cons (sub_sf Ty.i64 _) (.nil))))) rfl) (.consG (pre := []) (dlt rfl rfl) rfl rfl rfl rfl .nil (fun he => ok_build (dlt rfl rfl) rfl ty67 rfl pl67 rfl rfl rfl) (.consG (pre := [(70, .agg [.bool v9.may, .int .i64 v9.holds, .int .i64 v9.fails]), (71, .agg [.bool false, .int .i64 (-1), .int .i64 (-1)])]) (dlt rfl rfl) rfl rfl rfl rfl (.cons rfl (fun he => he) (.cons rfl (fun he => he) .nil)) (fun he => ok_eqlA (cs := [.bool v9.may, .int .i64 v9.holds, .int .i64 v9.fails]) (ds := [.bool false, .int .i64 (-1), .int .i64 (-1)]) (dlt rfl rfl) rfl fl67 rfl rfl (by kernel_rfl)) (.cons rfl (ok_andW (dlt rfl rfl) rfl rfl rfl (fun h => h)) (.cons rfl (ok_assign (dlt rfl rfl) rfl rfl) (.nil ?_)))))))))))))))))))
   obtain rfl := Option.some.inj h
   refine ak_conv (Γ' := [(6, .bool ((v8.may == false && (v8.holds == (-1) && (v8.fails == (-1) && true))) && (v9.may == false && (v9.holds == (-1) && (v9.fails == (-1) && true)))))]) (σ' := []) (.cons rfl (.refl _) (.nil _)) (.nil _) ?_
   exact ak_ret (fn := Tryz.f6) Tryz.func6 rfl trivial rfl)
theorem d6 {a0 : List UInt8} {a1 : List ApiSegment} {a2 : Bool} {r : Bool} (h : f6 (.e6 a0 a1 a2) = some r) : Does Tryz.prog GG 6 [.sl Ty.u8 a0, .sl Ty.sApiSegment a1, .bool a2] [] (fun z _ => z = .bool r) := fn_of (fn := Tryz.f6) Tryz.func6 rfl Tryz.ntmps6 rfl (w6 _ _ h)
end Go.Proofs.YtonlbdholdaifaaGreatDoor
end
