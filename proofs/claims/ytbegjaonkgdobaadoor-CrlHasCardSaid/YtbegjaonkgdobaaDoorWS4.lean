/- What the functions compute, as plain models, and the walks that show it. -/
import Derived.Test.YtbegjaonkgdobaaDoorWS3
import Derived.Laws.BitsLemmas
set_option linter.unusedVariables false
set_option linter.unusedSimpArgs false
set_option linter.unusedSectionVars false
section
namespace Go.Proofs.Tryd.E
open Go Go.Eng
set_option maxRecDepth 100000
set_option linter.unusedVariables false
def f16 (k : Nat) : Option (Bool) :=
  (f32 k [48, 0]).bind fun v1 =>
  Er.on v1.2 (
   (f18 k (SCrl.mk [] 0 0 [] [] (SSig.mk (⟨[0, 0, 0, 0, 0, 0], rfl⟩ : Arr 6) (⟨[0, 0, 0, 0, 0, 0], rfl⟩ : Arr 6)))).bind fun v2 =>
   Er.on v2.2 (
    (f19 k (SCrl.mk [] 0 0 [] [] (SSig.mk (⟨[0, 0, 0, 0, 0, 0], rfl⟩ : Arr 6) (⟨[0, 0, 0, 0, 0, 0], rfl⟩ : Arr 6)))).bind fun v3 =>
    some false)
    (fun v3 =>
    (f19 k (SCrl.mk [] 0 0 [] [] (SSig.mk (⟨[0, 0, 0, 0, 0, 0], rfl⟩ : Arr 6) (⟨[0, 0, 0, 0, 0, 0], rfl⟩ : Arr 6)))).bind fun v4 =>
    some false)
    (fun v3 v4 =>
    (f19 k (SCrl.mk [] 0 0 [] [] (SSig.mk (⟨[0, 0, 0, 0, 0, 0], rfl⟩ : Arr 6) (⟨[0, 0, 0, 0, 0, 0], rfl⟩ : Arr 6)))).bind fun v5 =>
    some false))
   (fun v2 =>
   (f18 k (SCrl.mk [] 0 0 [] [] (SSig.mk (⟨[0, 0, 0, 0, 0, 0], rfl⟩ : Arr 6) (⟨[0, 0, 0, 0, 0, 0], rfl⟩ : Arr 6)))).bind fun v3 =>
   Er.on v3.2 (
    (f19 k (SCrl.mk [] 0 0 [] [] (SSig.mk (⟨[0, 0, 0, 0, 0, 0], rfl⟩ : Arr 6) (⟨[0, 0, 0, 0, 0, 0], rfl⟩ : Arr 6)))).bind fun v4 =>
    if v2 = 7 then (
     some ((bytesOf v3.1).data.toList == (bytesOf v4.1).data.toList))
    else (
     some false))
    (fun v4 =>
    (f19 k (SCrl.mk [] 0 0 [] [] (SSig.mk (⟨[0, 0, 0, 0, 0, 0], rfl⟩ : Arr 6) (⟨[0, 0, 0, 0, 0, 0], rfl⟩ : Arr 6)))).bind fun v5 =>
    if v2 = 7 then (
     some false)
    else (
     some false))
    (fun v4 v5 =>
    (f19 k (SCrl.mk [] 0 0 [] [] (SSig.mk (⟨[0, 0, 0, 0, 0, 0], rfl⟩ : Arr 6) (⟨[0, 0, 0, 0, 0, 0], rfl⟩ : Arr 6)))).bind fun v6 =>
    if v2 = 7 then (
     some false)
    else (
     some false)))
   (fun v2 v3 =>
   (f18 k (SCrl.mk [] 0 0 [] [] (SSig.mk (⟨[0, 0, 0, 0, 0, 0], rfl⟩ : Arr 6) (⟨[0, 0, 0, 0, 0, 0], rfl⟩ : Arr 6)))).bind fun v4 =>
   Er.on v4.2 (
    (f19 k (SCrl.mk [] 0 0 [] [] (SSig.mk (⟨[0, 0, 0, 0, 0, 0], rfl⟩ : Arr 6) (⟨[0, 0, 0, 0, 0, 0], rfl⟩ : Arr 6)))).bind fun v5 =>
    some false)
    (fun v5 =>
    (f19 k (SCrl.mk [] 0 0 [] [] (SSig.mk (⟨[0, 0, 0, 0, 0, 0], rfl⟩ : Arr 6) (⟨[0, 0, 0, 0, 0, 0], rfl⟩ : Arr 6)))).bind fun v6 =>
    some false)
    (fun v5 v6 =>
    (f19 k (SCrl.mk [] 0 0 [] [] (SSig.mk (⟨[0, 0, 0, 0, 0, 0], rfl⟩ : Arr 6) (⟨[0, 0, 0, 0, 0, 0], rfl⟩ : Arr 6)))).bind fun v7 =>
    some false))

theorem f16_ok (k : Nat) : ∀  (r : Bool), f16 k = some r → Ct.Ok PX 16 ⟨[], [], 0, (.im (eB r)), [], 0⟩ := by
  intro r h
  unfold f16 at h
  obtain ⟨v1, h1, h⟩ := bnd h
  rcases h2 : v1.2 with _ | v2 | ⟨v2, v3⟩
  · rw [h2] at h; dsimp only [Er.on] at h
    obtain ⟨v2, h3, h⟩ := bnd h
    rcases h4 : v2.2 with _ | v3 | ⟨v3, v4⟩
    · rw [h4] at h; dsimp only [Er.on] at h
      obtain ⟨v3, h5, h⟩ := bnd h
      replace h := Option.some.inj h; subst h
      exact Ct.ofWalk hT hm F16 (by kernel_rfl) (n := 1000) (ds := [.r [], .r [(1, ⟨(.c false [0] ⟨[], [], [], 0, (.tup [(.im (.st [(1, (.sl 2 (v1.1.Issuer.map eSPart))), (1, (eI .i64 v1.1.This)), (1, (eI .i64 v1.1.Next)), (1, (.sl 2 (v1.1.Gone.map eSGone))), (1, (.sl 1 (v1.1.Body.map (eI .u8)))), (12, (.st [(6, (.arr 1 (v1.1.Sig.R.l.map (eI .u64)))), (6, (.arr 1 (v1.1.Sig.S.l.map (eI .u64))))]))])), (.im (.v .nilIface))]), [], 0, [], 1⟩), [], []⟩)], .r [(1, ⟨(.c false [] ⟨[], [(.s [(.n 2), .k, .k, (.n 2), (.n 1)])], [], 0, (.tup [(.im (.sl 1 (v2.1.map (eI .u8)))), (.im (.v .nilIface))]), [], 0, [], 2⟩), [], []⟩)], .r [(1, ⟨(.c false [] ⟨[], [(.s [(.n 2), .k, .k, (.n 2), (.n 1)])], [], 0, (.tup [(.im (.sl 1 (v3.1.map (eI .u8)))), (.im (eI .i64 v3.2))]), [], 0, [], 2⟩), [], []⟩)], .r [], .k ⟨[], [], [], [], [], 0, [], []⟩])
        (r := (.fin (.im (eB false)) [] 0)) (obs := [Ct.Ok PX 32 ⟨[(.im (.sl 1 [(eI .u8 48), (eI .u8 0)]))], [], 0, (.tup [(.im (.st [(1, (.sl 2 (v1.1.Issuer.map eSPart))), (1, (eI .i64 v1.1.This)), (1, (eI .i64 v1.1.Next)), (1, (.sl 2 (v1.1.Gone.map eSGone))), (1, (.sl 1 (v1.1.Body.map (eI .u8)))), (12, (.st [(6, (.arr 1 (v1.1.Sig.R.l.map (eI .u64)))), (6, (.arr 1 (v1.1.Sig.S.l.map (eI .u64))))]))])), (.im (.v .nilIface))]), [], 0⟩, Ct.Ok PX 18 ⟨[(.im (.st [(1, (.sl 2 [])), (1, (eI .i64 0)), (1, (eI .i64 0)), (1, (.sl 2 [])), (1, (.sl 1 [])), (12, (.st [(6, (.arr 1 [(eI .u64 0), (eI .u64 0), (eI .u64 0), (eI .u64 0), (eI .u64 0), (eI .u64 0)])), (6, (.arr 1 [(eI .u64 0), (eI .u64 0), (eI .u64 0), (eI .u64 0), (eI .u64 0), (eI .u64 0)]))]))]))], [], 0, (.tup [(.im (.sl 1 (v2.1.map (eI .u8)))), (.im (.v .nilIface))]), [], 0⟩, Ct.Ok PX 19 ⟨[(.im (.st [(1, (.sl 2 [])), (1, (eI .i64 0)), (1, (eI .i64 0)), (1, (.sl 2 [])), (1, (.sl 1 [])), (12, (.st [(6, (.arr 1 [(eI .u64 0), (eI .u64 0), (eI .u64 0), (eI .u64 0), (eI .u64 0), (eI .u64 0)])), (6, (.arr 1 [(eI .u64 0), (eI .u64 0), (eI .u64 0), (eI .u64 0), (eI .u64 0), (eI .u64 0)]))]))]))], [], 0, (.tup [(.im (.sl 1 (v3.1.map (eI .u8)))), (.im (eI .i64 v3.2))]), [], 0⟩])
        (by kernel_rfl) ⟨(by have q := (f32_ok k [48, 0] v1 h1); rw [h2] at q; exact q), (by have q := (f18_ok k (SCrl.mk [] 0 0 [] [] (SSig.mk (⟨[0, 0, 0, 0, 0, 0], rfl⟩ : Arr 6) (⟨[0, 0, 0, 0, 0, 0], rfl⟩ : Arr 6))) v2 h3); rw [h4] at q; exact q), (f19_ok k (SCrl.mk [] 0 0 [] [] (SSig.mk (⟨[0, 0, 0, 0, 0, 0], rfl⟩ : Arr 6) (⟨[0, 0, 0, 0, 0, 0], rfl⟩ : Arr 6))) v3 h5), trivial⟩ (fun fn hfn => ⟨rfl, rfl, rfl⟩)
    · rw [h4] at h; dsimp only [Er.on] at h
      obtain ⟨v4, h5, h⟩ := bnd h
      replace h := Option.some.inj h; subst h
      exact Ct.ofWalk hT hm F16 (by kernel_rfl) (n := 1000) (ds := [.r [], .r [(1, ⟨(.c false [0] ⟨[], [], [], 0, (.tup [(.im (.st [(1, (.sl 2 (v1.1.Issuer.map eSPart))), (1, (eI .i64 v1.1.This)), (1, (eI .i64 v1.1.Next)), (1, (.sl 2 (v1.1.Gone.map eSGone))), (1, (.sl 1 (v1.1.Body.map (eI .u8)))), (12, (.st [(6, (.arr 1 (v1.1.Sig.R.l.map (eI .u64)))), (6, (.arr 1 (v1.1.Sig.S.l.map (eI .u64))))]))])), (.im (.v .nilIface))]), [], 0, [], 1⟩), [], []⟩)], .r [(1, ⟨(.c false [] ⟨[], [(.s [(.n 2), .k, .k, (.n 2), (.n 1)])], [], 0, (.tup [(.im (.sl 1 (v2.1.map (eI .u8)))), (.im (.ifc 40 (eI .i64 v3)))]), [], 0, [], 2⟩), [], []⟩)], .r [(1, ⟨(.c false [] ⟨[], [(.s [(.n 2), .k, .k, (.n 2), (.n 1)])], [], 0, (.tup [(.im (.sl 1 (v4.1.map (eI .u8)))), (.im (eI .i64 v4.2))]), [], 0, [], 2⟩), [], []⟩)], .r [], .k ⟨[], [], [], [], [], 0, [], []⟩])
        (r := (.fin (.im (eB false)) [] 0)) (obs := [Ct.Ok PX 32 ⟨[(.im (.sl 1 [(eI .u8 48), (eI .u8 0)]))], [], 0, (.tup [(.im (.st [(1, (.sl 2 (v1.1.Issuer.map eSPart))), (1, (eI .i64 v1.1.This)), (1, (eI .i64 v1.1.Next)), (1, (.sl 2 (v1.1.Gone.map eSGone))), (1, (.sl 1 (v1.1.Body.map (eI .u8)))), (12, (.st [(6, (.arr 1 (v1.1.Sig.R.l.map (eI .u64)))), (6, (.arr 1 (v1.1.Sig.S.l.map (eI .u64))))]))])), (.im (.v .nilIface))]), [], 0⟩, Ct.Ok PX 18 ⟨[(.im (.st [(1, (.sl 2 [])), (1, (eI .i64 0)), (1, (eI .i64 0)), (1, (.sl 2 [])), (1, (.sl 1 [])), (12, (.st [(6, (.arr 1 [(eI .u64 0), (eI .u64 0), (eI .u64 0), (eI .u64 0), (eI .u64 0), (eI .u64 0)])), (6, (.arr 1 [(eI .u64 0), (eI .u64 0), (eI .u64 0), (eI .u64 0), (eI .u64 0), (eI .u64 0)]))]))]))], [], 0, (.tup [(.im (.sl 1 (v2.1.map (eI .u8)))), (.im (.ifc 40 (eI .i64 v3)))]), [], 0⟩, Ct.Ok PX 19 ⟨[(.im (.st [(1, (.sl 2 [])), (1, (eI .i64 0)), (1, (eI .i64 0)), (1, (.sl 2 [])), (1, (.sl 1 [])), (12, (.st [(6, (.arr 1 [(eI .u64 0), (eI .u64 0), (eI .u64 0), (eI .u64 0), (eI .u64 0), (eI .u64 0)])), (6, (.arr 1 [(eI .u64 0), (eI .u64 0), (eI .u64 0), (eI .u64 0), (eI .u64 0), (eI .u64 0)]))]))]))], [], 0, (.tup [(.im (.sl 1 (v4.1.map (eI .u8)))), (.im (eI .i64 v4.2))]), [], 0⟩])
        (by kernel_rfl) ⟨(by have q := (f32_ok k [48, 0] v1 h1); rw [h2] at q; exact q), (by have q := (f18_ok k (SCrl.mk [] 0 0 [] [] (SSig.mk (⟨[0, 0, 0, 0, 0, 0], rfl⟩ : Arr 6) (⟨[0, 0, 0, 0, 0, 0], rfl⟩ : Arr 6))) v2 h3); rw [h4] at q; exact q), (f19_ok k (SCrl.mk [] 0 0 [] [] (SSig.mk (⟨[0, 0, 0, 0, 0, 0], rfl⟩ : Arr 6) (⟨[0, 0, 0, 0, 0, 0], rfl⟩ : Arr 6))) v4 h5), trivial⟩ (fun fn hfn => ⟨rfl, rfl, rfl⟩)
    · rw [h4] at h; dsimp only [Er.on] at h
      obtain ⟨v5, h5, h⟩ := bnd h
      replace h := Option.some.inj h; subst h
      exact Ct.ofWalk hT hm F16 (by kernel_rfl) (n := 1000) (ds := [.r [], .r [(1, ⟨(.c false [0] ⟨[], [], [], 0, (.tup [(.im (.st [(1, (.sl 2 (v1.1.Issuer.map eSPart))), (1, (eI .i64 v1.1.This)), (1, (eI .i64 v1.1.Next)), (1, (.sl 2 (v1.1.Gone.map eSGone))), (1, (.sl 1 (v1.1.Body.map (eI .u8)))), (12, (.st [(6, (.arr 1 (v1.1.Sig.R.l.map (eI .u64)))), (6, (.arr 1 (v1.1.Sig.S.l.map (eI .u64))))]))])), (.im (.v .nilIface))]), [], 0, [], 1⟩), [], []⟩)], .r [(1, ⟨(.c false [] ⟨[], [(.s [(.n 2), .k, .k, (.n 2), (.n 1)])], [], 0, (.tup [(.im (.sl 1 (v2.1.map (eI .u8)))), (.im (.ifc 77 (.pim 2 (.st [(1, (eI .i64 v3)), (1, (.ifc 40 (eI .i64 v4)))]))))]), [], 0, [], 2⟩), [], []⟩)], .r [(1, ⟨(.c false [] ⟨[], [(.s [(.n 2), .k, .k, (.n 2), (.n 1)])], [], 0, (.tup [(.im (.sl 1 (v5.1.map (eI .u8)))), (.im (eI .i64 v5.2))]), [], 0, [], 2⟩), [], []⟩)], .r [], .k ⟨[], [], [], [], [], 0, [], []⟩])
        (r := (.fin (.im (eB false)) [] 0)) (obs := [Ct.Ok PX 32 ⟨[(.im (.sl 1 [(eI .u8 48), (eI .u8 0)]))], [], 0, (.tup [(.im (.st [(1, (.sl 2 (v1.1.Issuer.map eSPart))), (1, (eI .i64 v1.1.This)), (1, (eI .i64 v1.1.Next)), (1, (.sl 2 (v1.1.Gone.map eSGone))), (1, (.sl 1 (v1.1.Body.map (eI .u8)))), (12, (.st [(6, (.arr 1 (v1.1.Sig.R.l.map (eI .u64)))), (6, (.arr 1 (v1.1.Sig.S.l.map (eI .u64))))]))])), (.im (.v .nilIface))]), [], 0⟩, Ct.Ok PX 18 ⟨[(.im (.st [(1, (.sl 2 [])), (1, (eI .i64 0)), (1, (eI .i64 0)), (1, (.sl 2 [])), (1, (.sl 1 [])), (12, (.st [(6, (.arr 1 [(eI .u64 0), (eI .u64 0), (eI .u64 0), (eI .u64 0), (eI .u64 0), (eI .u64 0)])), (6, (.arr 1 [(eI .u64 0), (eI .u64 0), (eI .u64 0), (eI .u64 0), (eI .u64 0), (eI .u64 0)]))]))]))], [], 0, (.tup [(.im (.sl 1 (v2.1.map (eI .u8)))), (.im (.ifc 77 (.pim 2 (.st [(1, (eI .i64 v3)), (1, (.ifc 40 (eI .i64 v4)))]))))]), [], 0⟩, Ct.Ok PX 19 ⟨[(.im (.st [(1, (.sl 2 [])), (1, (eI .i64 0)), (1, (eI .i64 0)), (1, (.sl 2 [])), (1, (.sl 1 [])), (12, (.st [(6, (.arr 1 [(eI .u64 0), (eI .u64 0), (eI .u64 0), (eI .u64 0), (eI .u64 0), (eI .u64 0)])), (6, (.arr 1 [(eI .u64 0), (eI .u64 0), (eI .u64 0), (eI .u64 0), (eI .u64 0), (eI .u64 0)]))]))]))], [], 0, (.tup [(.im (.sl 1 (v5.1.map (eI .u8)))), (.im (eI .i64 v5.2))]), [], 0⟩])
        (by kernel_rfl) ⟨(by have q := (f32_ok k [48, 0] v1 h1); rw [h2] at q; exact q), (by have q := (f18_ok k (SCrl.mk [] 0 0 [] [] (SSig.mk (⟨[0, 0, 0, 0, 0, 0], rfl⟩ : Arr 6) (⟨[0, 0, 0, 0, 0, 0], rfl⟩ : Arr 6))) v2 h3); rw [h4] at q; exact q), (f19_ok k (SCrl.mk [] 0 0 [] [] (SSig.mk (⟨[0, 0, 0, 0, 0, 0], rfl⟩ : Arr 6) (⟨[0, 0, 0, 0, 0, 0], rfl⟩ : Arr 6))) v5 h5), trivial⟩ (fun fn hfn => ⟨rfl, rfl, rfl⟩)
  · rw [h2] at h; dsimp only [Er.on] at h
    obtain ⟨v3, h3, h⟩ := bnd h
    rcases h4 : v3.2 with _ | v4 | ⟨v4, v5⟩
    · rw [h4] at h; dsimp only [Er.on] at h
      obtain ⟨v4, h5, h⟩ := bnd h
      by_cases h6 : v2 = 7
      · rw [if_pos h6] at h
        replace h := Option.some.inj h; subst h
        exact Ct.ofWalk hT hm F16 (by kernel_rfl) (n := 1000) (ds := [.r [], .r [(1, ⟨(.c false [0] ⟨[], [], [], 0, (.tup [(.im (.st [(1, (.sl 2 (v1.1.Issuer.map eSPart))), (1, (eI .i64 v1.1.This)), (1, (eI .i64 v1.1.Next)), (1, (.sl 2 (v1.1.Gone.map eSGone))), (1, (.sl 1 (v1.1.Body.map (eI .u8)))), (12, (.st [(6, (.arr 1 (v1.1.Sig.R.l.map (eI .u64)))), (6, (.arr 1 (v1.1.Sig.S.l.map (eI .u64))))]))])), (.im (.ifc 40 (eI .i64 v2)))]), [], 0, [], 1⟩), [], []⟩)], .r [(1, ⟨(.c false [] ⟨[], [(.s [(.n 2), .k, .k, (.n 2), (.n 1)])], [], 0, (.tup [(.im (.sl 1 (v3.1.map (eI .u8)))), (.im (.v .nilIface))]), [], 0, [], 2⟩), [], []⟩)], .r [(1, ⟨(.c false [] ⟨[], [(.s [(.n 2), .k, .k, (.n 2), (.n 1)])], [], 0, (.tup [(.im (.sl 1 (v4.1.map (eI .u8)))), (.im (eI .i64 v4.2))]), [], 0, [], 2⟩), [], []⟩)], .r [(2, ⟨(.h (.bool true)), [], []⟩), (9, ⟨(.h (.gt (.ints v3.1))), [], []⟩), (11, ⟨(.h (.gt (.ints v4.1))), [], []⟩)], .k ⟨[], [], [], [], [], 0, [], []⟩])
          (r := (.fin (.im (eB ((bytesOf v3.1).data.toList == (bytesOf v4.1).data.toList))) [] 0)) (obs := [Ct.Ok PX 32 ⟨[(.im (.sl 1 [(eI .u8 48), (eI .u8 0)]))], [], 0, (.tup [(.im (.st [(1, (.sl 2 (v1.1.Issuer.map eSPart))), (1, (eI .i64 v1.1.This)), (1, (eI .i64 v1.1.Next)), (1, (.sl 2 (v1.1.Gone.map eSGone))), (1, (.sl 1 (v1.1.Body.map (eI .u8)))), (12, (.st [(6, (.arr 1 (v1.1.Sig.R.l.map (eI .u64)))), (6, (.arr 1 (v1.1.Sig.S.l.map (eI .u64))))]))])), (.im (.ifc 40 (eI .i64 v2)))]), [], 0⟩, Ct.Ok PX 18 ⟨[(.im (.st [(1, (.sl 2 [])), (1, (eI .i64 0)), (1, (eI .i64 0)), (1, (.sl 2 [])), (1, (.sl 1 [])), (12, (.st [(6, (.arr 1 [(eI .u64 0), (eI .u64 0), (eI .u64 0), (eI .u64 0), (eI .u64 0), (eI .u64 0)])), (6, (.arr 1 [(eI .u64 0), (eI .u64 0), (eI .u64 0), (eI .u64 0), (eI .u64 0), (eI .u64 0)]))]))]))], [], 0, (.tup [(.im (.sl 1 (v3.1.map (eI .u8)))), (.im (.v .nilIface))]), [], 0⟩, Ct.Ok PX 19 ⟨[(.im (.st [(1, (.sl 2 [])), (1, (eI .i64 0)), (1, (eI .i64 0)), (1, (.sl 2 [])), (1, (.sl 1 [])), (12, (.st [(6, (.arr 1 [(eI .u64 0), (eI .u64 0), (eI .u64 0), (eI .u64 0), (eI .u64 0), (eI .u64 0)])), (6, (.arr 1 [(eI .u64 0), (eI .u64 0), (eI .u64 0), (eI .u64 0), (eI .u64 0), (eI .u64 0)]))]))]))], [], 0, (.tup [(.im (.sl 1 (v4.1.map (eI .u8)))), (.im (eI .i64 v4.2))]), [], 0⟩, ieqQ T (.ifc 40 (eI .i64 v2)) (.ifc 40 (eI .i64 7)) = some true, nilQ (.ifc 40 (eI .i64 v2)) = some true → nilQ (.ifc 40 (eI .i64 7)) = some true → False, true = true, (v3.1.map (eI .u8)) = (v3.1.map fun n => IV.v (.int .u8 n)), true = true, (v4.1.map (eI .u8)) = (v4.1.map fun n => IV.v (.int .u8 n))])
          (by kernel_rfl) ⟨(by have q := (f32_ok k [48, 0] v1 h1); rw [h2] at q; exact q), (by have q := (f18_ok k (SCrl.mk [] 0 0 [] [] (SSig.mk (⟨[0, 0, 0, 0, 0, 0], rfl⟩ : Arr 6) (⟨[0, 0, 0, 0, 0, 0], rfl⟩ : Arr 6))) v3 h3); rw [h4] at q; exact q), (f19_ok k (SCrl.mk [] 0 0 [] [] (SSig.mk (⟨[0, 0, 0, 0, 0, 0], rfl⟩ : Arr 6) (⟨[0, 0, 0, 0, 0, 0], rfl⟩ : Arr 6))) v4 h5), (ieqC (bt h6)), (fun q => by cases q), rfl, rfl, rfl, rfl, trivial⟩ (fun fn hfn => ⟨rfl, rfl, rfl⟩)
      · rw [if_neg h6] at h
        replace h := Option.some.inj h; subst h
        exact Ct.ofWalk hT hm F16 (by kernel_rfl) (n := 1000) (ds := [.r [], .r [(1, ⟨(.c false [0] ⟨[], [], [], 0, (.tup [(.im (.st [(1, (.sl 2 (v1.1.Issuer.map eSPart))), (1, (eI .i64 v1.1.This)), (1, (eI .i64 v1.1.Next)), (1, (.sl 2 (v1.1.Gone.map eSGone))), (1, (.sl 1 (v1.1.Body.map (eI .u8)))), (12, (.st [(6, (.arr 1 (v1.1.Sig.R.l.map (eI .u64)))), (6, (.arr 1 (v1.1.Sig.S.l.map (eI .u64))))]))])), (.im (.ifc 40 (eI .i64 v2)))]), [], 0, [], 1⟩), [], []⟩)], .r [(1, ⟨(.c false [] ⟨[], [(.s [(.n 2), .k, .k, (.n 2), (.n 1)])], [], 0, (.tup [(.im (.sl 1 (v3.1.map (eI .u8)))), (.im (.v .nilIface))]), [], 0, [], 2⟩), [], []⟩)], .r [(1, ⟨(.c false [] ⟨[], [(.s [(.n 2), .k, .k, (.n 2), (.n 1)])], [], 0, (.tup [(.im (.sl 1 (v4.1.map (eI .u8)))), (.im (eI .i64 v4.2))]), [], 0, [], 2⟩), [], []⟩)], .r [(2, ⟨(.h (.bool false)), [], []⟩)], .k ⟨[], [], [], [], [], 0, [], []⟩])
          (r := (.fin (.im (eB false)) [] 0)) (obs := [Ct.Ok PX 32 ⟨[(.im (.sl 1 [(eI .u8 48), (eI .u8 0)]))], [], 0, (.tup [(.im (.st [(1, (.sl 2 (v1.1.Issuer.map eSPart))), (1, (eI .i64 v1.1.This)), (1, (eI .i64 v1.1.Next)), (1, (.sl 2 (v1.1.Gone.map eSGone))), (1, (.sl 1 (v1.1.Body.map (eI .u8)))), (12, (.st [(6, (.arr 1 (v1.1.Sig.R.l.map (eI .u64)))), (6, (.arr 1 (v1.1.Sig.S.l.map (eI .u64))))]))])), (.im (.ifc 40 (eI .i64 v2)))]), [], 0⟩, Ct.Ok PX 18 ⟨[(.im (.st [(1, (.sl 2 [])), (1, (eI .i64 0)), (1, (eI .i64 0)), (1, (.sl 2 [])), (1, (.sl 1 [])), (12, (.st [(6, (.arr 1 [(eI .u64 0), (eI .u64 0), (eI .u64 0), (eI .u64 0), (eI .u64 0), (eI .u64 0)])), (6, (.arr 1 [(eI .u64 0), (eI .u64 0), (eI .u64 0), (eI .u64 0), (eI .u64 0), (eI .u64 0)]))]))]))], [], 0, (.tup [(.im (.sl 1 (v3.1.map (eI .u8)))), (.im (.v .nilIface))]), [], 0⟩, Ct.Ok PX 19 ⟨[(.im (.st [(1, (.sl 2 [])), (1, (eI .i64 0)), (1, (eI .i64 0)), (1, (.sl 2 [])), (1, (.sl 1 [])), (12, (.st [(6, (.arr 1 [(eI .u64 0), (eI .u64 0), (eI .u64 0), (eI .u64 0), (eI .u64 0), (eI .u64 0)])), (6, (.arr 1 [(eI .u64 0), (eI .u64 0), (eI .u64 0), (eI .u64 0), (eI .u64 0), (eI .u64 0)]))]))]))], [], 0, (.tup [(.im (.sl 1 (v4.1.map (eI .u8)))), (.im (eI .i64 v4.2))]), [], 0⟩, ieqQ T (.ifc 40 (eI .i64 v2)) (.ifc 40 (eI .i64 7)) = some false, nilQ (.ifc 40 (eI .i64 v2)) = some true → nilQ (.ifc 40 (eI .i64 7)) = some true → False])
          (by kernel_rfl) ⟨(by have q := (f32_ok k [48, 0] v1 h1); rw [h2] at q; exact q), (by have q := (f18_ok k (SCrl.mk [] 0 0 [] [] (SSig.mk (⟨[0, 0, 0, 0, 0, 0], rfl⟩ : Arr 6) (⟨[0, 0, 0, 0, 0, 0], rfl⟩ : Arr 6))) v3 h3); rw [h4] at q; exact q), (f19_ok k (SCrl.mk [] 0 0 [] [] (SSig.mk (⟨[0, 0, 0, 0, 0, 0], rfl⟩ : Arr 6) (⟨[0, 0, 0, 0, 0, 0], rfl⟩ : Arr 6))) v4 h5), (ieqC (bf h6)), (fun q => by cases q), trivial⟩ (fun fn hfn => ⟨rfl, rfl, rfl⟩)
    · rw [h4] at h; dsimp only [Er.on] at h
      obtain ⟨v5, h5, h⟩ := bnd h
      by_cases h6 : v2 = 7
      · rw [if_pos h6] at h
        replace h := Option.some.inj h; subst h
        exact Ct.ofWalk hT hm F16 (by kernel_rfl) (n := 1000) (ds := [.r [], .r [(1, ⟨(.c false [0] ⟨[], [], [], 0, (.tup [(.im (.st [(1, (.sl 2 (v1.1.Issuer.map eSPart))), (1, (eI .i64 v1.1.This)), (1, (eI .i64 v1.1.Next)), (1, (.sl 2 (v1.1.Gone.map eSGone))), (1, (.sl 1 (v1.1.Body.map (eI .u8)))), (12, (.st [(6, (.arr 1 (v1.1.Sig.R.l.map (eI .u64)))), (6, (.arr 1 (v1.1.Sig.S.l.map (eI .u64))))]))])), (.im (.ifc 40 (eI .i64 v2)))]), [], 0, [], 1⟩), [], []⟩)], .r [(1, ⟨(.c false [] ⟨[], [(.s [(.n 2), .k, .k, (.n 2), (.n 1)])], [], 0, (.tup [(.im (.sl 1 (v3.1.map (eI .u8)))), (.im (.ifc 40 (eI .i64 v4)))]), [], 0, [], 2⟩), [], []⟩)], .r [(1, ⟨(.c false [] ⟨[], [(.s [(.n 2), .k, .k, (.n 2), (.n 1)])], [], 0, (.tup [(.im (.sl 1 (v5.1.map (eI .u8)))), (.im (eI .i64 v5.2))]), [], 0, [], 2⟩), [], []⟩)], .r [(2, ⟨(.h (.bool true)), [], []⟩)], .k ⟨[], [], [], [], [], 0, [], []⟩])
          (r := (.fin (.im (eB false)) [] 0)) (obs := [Ct.Ok PX 32 ⟨[(.im (.sl 1 [(eI .u8 48), (eI .u8 0)]))], [], 0, (.tup [(.im (.st [(1, (.sl 2 (v1.1.Issuer.map eSPart))), (1, (eI .i64 v1.1.This)), (1, (eI .i64 v1.1.Next)), (1, (.sl 2 (v1.1.Gone.map eSGone))), (1, (.sl 1 (v1.1.Body.map (eI .u8)))), (12, (.st [(6, (.arr 1 (v1.1.Sig.R.l.map (eI .u64)))), (6, (.arr 1 (v1.1.Sig.S.l.map (eI .u64))))]))])), (.im (.ifc 40 (eI .i64 v2)))]), [], 0⟩, Ct.Ok PX 18 ⟨[(.im (.st [(1, (.sl 2 [])), (1, (eI .i64 0)), (1, (eI .i64 0)), (1, (.sl 2 [])), (1, (.sl 1 [])), (12, (.st [(6, (.arr 1 [(eI .u64 0), (eI .u64 0), (eI .u64 0), (eI .u64 0), (eI .u64 0), (eI .u64 0)])), (6, (.arr 1 [(eI .u64 0), (eI .u64 0), (eI .u64 0), (eI .u64 0), (eI .u64 0), (eI .u64 0)]))]))]))], [], 0, (.tup [(.im (.sl 1 (v3.1.map (eI .u8)))), (.im (.ifc 40 (eI .i64 v4)))]), [], 0⟩, Ct.Ok PX 19 ⟨[(.im (.st [(1, (.sl 2 [])), (1, (eI .i64 0)), (1, (eI .i64 0)), (1, (.sl 2 [])), (1, (.sl 1 [])), (12, (.st [(6, (.arr 1 [(eI .u64 0), (eI .u64 0), (eI .u64 0), (eI .u64 0), (eI .u64 0), (eI .u64 0)])), (6, (.arr 1 [(eI .u64 0), (eI .u64 0), (eI .u64 0), (eI .u64 0), (eI .u64 0), (eI .u64 0)]))]))]))], [], 0, (.tup [(.im (.sl 1 (v5.1.map (eI .u8)))), (.im (eI .i64 v5.2))]), [], 0⟩, ieqQ T (.ifc 40 (eI .i64 v2)) (.ifc 40 (eI .i64 7)) = some true, nilQ (.ifc 40 (eI .i64 v2)) = some true → nilQ (.ifc 40 (eI .i64 7)) = some true → False])
          (by kernel_rfl) ⟨(by have q := (f32_ok k [48, 0] v1 h1); rw [h2] at q; exact q), (by have q := (f18_ok k (SCrl.mk [] 0 0 [] [] (SSig.mk (⟨[0, 0, 0, 0, 0, 0], rfl⟩ : Arr 6) (⟨[0, 0, 0, 0, 0, 0], rfl⟩ : Arr 6))) v3 h3); rw [h4] at q; exact q), (f19_ok k (SCrl.mk [] 0 0 [] [] (SSig.mk (⟨[0, 0, 0, 0, 0, 0], rfl⟩ : Arr 6) (⟨[0, 0, 0, 0, 0, 0], rfl⟩ : Arr 6))) v5 h5), (ieqC (bt h6)), (fun q => by cases q), trivial⟩ (fun fn hfn => ⟨rfl, rfl, rfl⟩)
      · rw [if_neg h6] at h
        replace h := Option.some.inj h; subst h
        exact Ct.ofWalk hT hm F16 (by kernel_rfl) (n := 1000) (ds := [.r [], .r [(1, ⟨(.c false [0] ⟨[], [], [], 0, (.tup [(.im (.st [(1, (.sl 2 (v1.1.Issuer.map eSPart))), (1, (eI .i64 v1.1.This)), (1, (eI .i64 v1.1.Next)), (1, (.sl 2 (v1.1.Gone.map eSGone))), (1, (.sl 1 (v1.1.Body.map (eI .u8)))), (12, (.st [(6, (.arr 1 (v1.1.Sig.R.l.map (eI .u64)))), (6, (.arr 1 (v1.1.Sig.S.l.map (eI .u64))))]))])), (.im (.ifc 40 (eI .i64 v2)))]), [], 0, [], 1⟩), [], []⟩)], .r [(1, ⟨(.c false [] ⟨[], [(.s [(.n 2), .k, .k, (.n 2), (.n 1)])], [], 0, (.tup [(.im (.sl 1 (v3.1.map (eI .u8)))), (.im (.ifc 40 (eI .i64 v4)))]), [], 0, [], 2⟩), [], []⟩)], .r [(1, ⟨(.c false [] ⟨[], [(.s [(.n 2), .k, .k, (.n 2), (.n 1)])], [], 0, (.tup [(.im (.sl 1 (v5.1.map (eI .u8)))), (.im (eI .i64 v5.2))]), [], 0, [], 2⟩), [], []⟩)], .r [(2, ⟨(.h (.bool false)), [], []⟩)], .k ⟨[], [], [], [], [], 0, [], []⟩])
          (r := (.fin (.im (eB false)) [] 0)) (obs := [Ct.Ok PX 32 ⟨[(.im (.sl 1 [(eI .u8 48), (eI .u8 0)]))], [], 0, (.tup [(.im (.st [(1, (.sl 2 (v1.1.Issuer.map eSPart))), (1, (eI .i64 v1.1.This)), (1, (eI .i64 v1.1.Next)), (1, (.sl 2 (v1.1.Gone.map eSGone))), (1, (.sl 1 (v1.1.Body.map (eI .u8)))), (12, (.st [(6, (.arr 1 (v1.1.Sig.R.l.map (eI .u64)))), (6, (.arr 1 (v1.1.Sig.S.l.map (eI .u64))))]))])), (.im (.ifc 40 (eI .i64 v2)))]), [], 0⟩, Ct.Ok PX 18 ⟨[(.im (.st [(1, (.sl 2 [])), (1, (eI .i64 0)), (1, (eI .i64 0)), (1, (.sl 2 [])), (1, (.sl 1 [])), (12, (.st [(6, (.arr 1 [(eI .u64 0), (eI .u64 0), (eI .u64 0), (eI .u64 0), (eI .u64 0), (eI .u64 0)])), (6, (.arr 1 [(eI .u64 0), (eI .u64 0), (eI .u64 0), (eI .u64 0), (eI .u64 0), (eI .u64 0)]))]))]))], [], 0, (.tup [(.im (.sl 1 (v3.1.map (eI .u8)))), (.im (.ifc 40 (eI .i64 v4)))]), [], 0⟩, Ct.Ok PX 19 ⟨[(.im (.st [(1, (.sl 2 [])), (1, (eI .i64 0)), (1, (eI .i64 0)), (1, (.sl 2 [])), (1, (.sl 1 [])), (12, (.st [(6, (.arr 1 [(eI .u64 0), (eI .u64 0), (eI .u64 0), (eI .u64 0), (eI .u64 0), (eI .u64 0)])), (6, (.arr 1 [(eI .u64 0), (eI .u64 0), (eI .u64 0), (eI .u64 0), (eI .u64 0), (eI .u64 0)]))]))]))], [], 0, (.tup [(.im (.sl 1 (v5.1.map (eI .u8)))), (.im (eI .i64 v5.2))]), [], 0⟩, ieqQ T (.ifc 40 (eI .i64 v2)) (.ifc 40 (eI .i64 7)) = some false, nilQ (.ifc 40 (eI .i64 v2)) = some true → nilQ (.ifc 40 (eI .i64 7)) = some true → False])
          (by kernel_rfl) ⟨(by have q := (f32_ok k [48, 0] v1 h1); rw [h2] at q; exact q), (by have q := (f18_ok k (SCrl.mk [] 0 0 [] [] (SSig.mk (⟨[0, 0, 0, 0, 0, 0], rfl⟩ : Arr 6) (⟨[0, 0, 0, 0, 0, 0], rfl⟩ : Arr 6))) v3 h3); rw [h4] at q; exact q), (f19_ok k (SCrl.mk [] 0 0 [] [] (SSig.mk (⟨[0, 0, 0, 0, 0, 0], rfl⟩ : Arr 6) (⟨[0, 0, 0, 0, 0, 0], rfl⟩ : Arr 6))) v5 h5), (ieqC (bf h6)), (fun q => by cases q), trivial⟩ (fun fn hfn => ⟨rfl, rfl, rfl⟩)
    · rw [h4] at h; dsimp only [Er.on] at h
      obtain ⟨v6, h5, h⟩ := bnd h
      by_cases h6 : v2 = 7
      · rw [if_pos h6] at h
        replace h := Option.some.inj h; subst h
        exact Ct.ofWalk hT hm F16 (by kernel_rfl) (n := 1000) (ds := [.r [], .r [(1, ⟨(.c false [0] ⟨[], [], [], 0, (.tup [(.im (.st [(1, (.sl 2 (v1.1.Issuer.map eSPart))), (1, (eI .i64 v1.1.This)), (1, (eI .i64 v1.1.Next)), (1, (.sl 2 (v1.1.Gone.map eSGone))), (1, (.sl 1 (v1.1.Body.map (eI .u8)))), (12, (.st [(6, (.arr 1 (v1.1.Sig.R.l.map (eI .u64)))), (6, (.arr 1 (v1.1.Sig.S.l.map (eI .u64))))]))])), (.im (.ifc 40 (eI .i64 v2)))]), [], 0, [], 1⟩), [], []⟩)], .r [(1, ⟨(.c false [] ⟨[], [(.s [(.n 2), .k, .k, (.n 2), (.n 1)])], [], 0, (.tup [(.im (.sl 1 (v3.1.map (eI .u8)))), (.im (.ifc 77 (.pim 2 (.st [(1, (eI .i64 v4)), (1, (.ifc 40 (eI .i64 v5)))]))))]), [], 0, [], 2⟩), [], []⟩)], .r [(1, ⟨(.c false [] ⟨[], [(.s [(.n 2), .k, .k, (.n 2), (.n 1)])], [], 0, (.tup [(.im (.sl 1 (v6.1.map (eI .u8)))), (.im (eI .i64 v6.2))]), [], 0, [], 2⟩), [], []⟩)], .r [(2, ⟨(.h (.bool true)), [], []⟩)], .k ⟨[], [], [], [], [], 0, [], []⟩])
          (r := (.fin (.im (eB false)) [] 0)) (obs := [Ct.Ok PX 32 ⟨[(.im (.sl 1 [(eI .u8 48), (eI .u8 0)]))], [], 0, (.tup [(.im (.st [(1, (.sl 2 (v1.1.Issuer.map eSPart))), (1, (eI .i64 v1.1.This)), (1, (eI .i64 v1.1.Next)), (1, (.sl 2 (v1.1.Gone.map eSGone))), (1, (.sl 1 (v1.1.Body.map (eI .u8)))), (12, (.st [(6, (.arr 1 (v1.1.Sig.R.l.map (eI .u64)))), (6, (.arr 1 (v1.1.Sig.S.l.map (eI .u64))))]))])), (.im (.ifc 40 (eI .i64 v2)))]), [], 0⟩, Ct.Ok PX 18 ⟨[(.im (.st [(1, (.sl 2 [])), (1, (eI .i64 0)), (1, (eI .i64 0)), (1, (.sl 2 [])), (1, (.sl 1 [])), (12, (.st [(6, (.arr 1 [(eI .u64 0), (eI .u64 0), (eI .u64 0), (eI .u64 0), (eI .u64 0), (eI .u64 0)])), (6, (.arr 1 [(eI .u64 0), (eI .u64 0), (eI .u64 0), (eI .u64 0), (eI .u64 0), (eI .u64 0)]))]))]))], [], 0, (.tup [(.im (.sl 1 (v3.1.map (eI .u8)))), (.im (.ifc 77 (.pim 2 (.st [(1, (eI .i64 v4)), (1, (.ifc 40 (eI .i64 v5)))]))))]), [], 0⟩, Ct.Ok PX 19 ⟨[(.im (.st [(1, (.sl 2 [])), (1, (eI .i64 0)), (1, (eI .i64 0)), (1, (.sl 2 [])), (1, (.sl 1 [])), (12, (.st [(6, (.arr 1 [(eI .u64 0), (eI .u64 0), (eI .u64 0), (eI .u64 0), (eI .u64 0), (eI .u64 0)])), (6, (.arr 1 [(eI .u64 0), (eI .u64 0), (eI .u64 0), (eI .u64 0), (eI .u64 0), (eI .u64 0)]))]))]))], [], 0, (.tup [(.im (.sl 1 (v6.1.map (eI .u8)))), (.im (eI .i64 v6.2))]), [], 0⟩, ieqQ T (.ifc 40 (eI .i64 v2)) (.ifc 40 (eI .i64 7)) = some true, nilQ (.ifc 40 (eI .i64 v2)) = some true → nilQ (.ifc 40 (eI .i64 7)) = some true → False])
          (by kernel_rfl) ⟨(by have q := (f32_ok k [48, 0] v1 h1); rw [h2] at q; exact q), (by have q := (f18_ok k (SCrl.mk [] 0 0 [] [] (SSig.mk (⟨[0, 0, 0, 0, 0, 0], rfl⟩ : Arr 6) (⟨[0, 0, 0, 0, 0, 0], rfl⟩ : Arr 6))) v3 h3); rw [h4] at q; exact q), (f19_ok k (SCrl.mk [] 0 0 [] [] (SSig.mk (⟨[0, 0, 0, 0, 0, 0], rfl⟩ : Arr 6) (⟨[0, 0, 0, 0, 0, 0], rfl⟩ : Arr 6))) v6 h5), (ieqC (bt h6)), (fun q => by cases q), trivial⟩ (fun fn hfn => ⟨rfl, rfl, rfl⟩)
      · rw [if_neg h6] at h
        replace h := Option.some.inj h; subst h
        exact Ct.ofWalk hT hm F16 (by kernel_rfl) (n := 1000) (ds := [.r [], .r [(1, ⟨(.c false [0] ⟨[], [], [], 0, (.tup [(.im (.st [(1, (.sl 2 (v1.1.Issuer.map eSPart))), (1, (eI .i64 v1.1.This)), (1, (eI .i64 v1.1.Next)), (1, (.sl 2 (v1.1.Gone.map eSGone))), (1, (.sl 1 (v1.1.Body.map (eI .u8)))), (12, (.st [(6, (.arr 1 (v1.1.Sig.R.l.map (eI .u64)))), (6, (.arr 1 (v1.1.Sig.S.l.map (eI .u64))))]))])), (.im (.ifc 40 (eI .i64 v2)))]), [], 0, [], 1⟩), [], []⟩)], .r [(1, ⟨(.c false [] ⟨[], [(.s [(.n 2), .k, .k, (.n 2), (.n 1)])], [], 0, (.tup [(.im (.sl 1 (v3.1.map (eI .u8)))), (.im (.ifc 77 (.pim 2 (.st [(1, (eI .i64 v4)), (1, (.ifc 40 (eI .i64 v5)))]))))]), [], 0, [], 2⟩), [], []⟩)], .r [(1, ⟨(.c false [] ⟨[], [(.s [(.n 2), .k, .k, (.n 2), (.n 1)])], [], 0, (.tup [(.im (.sl 1 (v6.1.map (eI .u8)))), (.im (eI .i64 v6.2))]), [], 0, [], 2⟩), [], []⟩)], .r [(2, ⟨(.h (.bool false)), [], []⟩)], .k ⟨[], [], [], [], [], 0, [], []⟩])
          (r := (.fin (.im (eB false)) [] 0)) (obs := [Ct.Ok PX 32 ⟨[(.im (.sl 1 [(eI .u8 48), (eI .u8 0)]))], [], 0, (.tup [(.im (.st [(1, (.sl 2 (v1.1.Issuer.map eSPart))), (1, (eI .i64 v1.1.This)), (1, (eI .i64 v1.1.Next)), (1, (.sl 2 (v1.1.Gone.map eSGone))), (1, (.sl 1 (v1.1.Body.map (eI .u8)))), (12, (.st [(6, (.arr 1 (v1.1.Sig.R.l.map (eI .u64)))), (6, (.arr 1 (v1.1.Sig.S.l.map (eI .u64))))]))])), (.im (.ifc 40 (eI .i64 v2)))]), [], 0⟩, Ct.Ok PX 18 ⟨[(.im (.st [(1, (.sl 2 [])), (1, (eI .i64 0)), (1, (eI .i64 0)), (1, (.sl 2 [])), (1, (.sl 1 [])), (12, (.st [(6, (.arr 1 [(eI .u64 0), (eI .u64 0), (eI .u64 0), (eI .u64 0), (eI .u64 0), (eI .u64 0)])), (6, (.arr 1 [(eI .u64 0), (eI .u64 0), (eI .u64 0), (eI .u64 0), (eI .u64 0), (eI .u64 0)]))]))]))], [], 0, (.tup [(.im (.sl 1 (v3.1.map (eI .u8)))), (.im (.ifc 77 (.pim 2 (.st [(1, (eI .i64 v4)), (1, (.ifc 40 (eI .i64 v5)))]))))]), [], 0⟩, Ct.Ok PX 19 ⟨[(.im (.st [(1, (.sl 2 [])), (1, (eI .i64 0)), (1, (eI .i64 0)), (1, (.sl 2 [])), (1, (.sl 1 [])), (12, (.st [(6, (.arr 1 [(eI .u64 0), (eI .u64 0), (eI .u64 0), (eI .u64 0), (eI .u64 0), (eI .u64 0)])), (6, (.arr 1 [(eI .u64 0), (eI .u64 0), (eI .u64 0), (eI .u64 0), (eI .u64 0), (eI .u64 0)]))]))]))], [], 0, (.tup [(.im (.sl 1 (v6.1.map (eI .u8)))), (.im (eI .i64 v6.2))]), [], 0⟩, ieqQ T (.ifc 40 (eI .i64 v2)) (.ifc 40 (eI .i64 7)) = some false, nilQ (.ifc 40 (eI .i64 v2)) = some true → nilQ (.ifc 40 (eI .i64 7)) = some true → False])
          (by kernel_rfl) ⟨(by have q := (f32_ok k [48, 0] v1 h1); rw [h2] at q; exact q), (by have q := (f18_ok k (SCrl.mk [] 0 0 [] [] (SSig.mk (⟨[0, 0, 0, 0, 0, 0], rfl⟩ : Arr 6) (⟨[0, 0, 0, 0, 0, 0], rfl⟩ : Arr 6))) v3 h3); rw [h4] at q; exact q), (f19_ok k (SCrl.mk [] 0 0 [] [] (SSig.mk (⟨[0, 0, 0, 0, 0, 0], rfl⟩ : Arr 6) (⟨[0, 0, 0, 0, 0, 0], rfl⟩ : Arr 6))) v6 h5), (ieqC (bf h6)), (fun q => by cases q), trivial⟩ (fun fn hfn => ⟨rfl, rfl, rfl⟩)
  · rw [h2] at h; dsimp only [Er.on] at h
    obtain ⟨v4, h3, h⟩ := bnd h
    rcases h4 : v4.2 with _ | v5 | ⟨v5, v6⟩
    · rw [h4] at h; dsimp only [Er.on] at h
      obtain ⟨v5, h5, h⟩ := bnd h
      replace h := Option.some.inj h; subst h
      exact Ct.ofWalk hT hm F16 (by kernel_rfl) (n := 1000) (ds := [.r [], .r [(1, ⟨(.c false [0] ⟨[], [], [], 0, (.tup [(.im (.st [(1, (.sl 2 (v1.1.Issuer.map eSPart))), (1, (eI .i64 v1.1.This)), (1, (eI .i64 v1.1.Next)), (1, (.sl 2 (v1.1.Gone.map eSGone))), (1, (.sl 1 (v1.1.Body.map (eI .u8)))), (12, (.st [(6, (.arr 1 (v1.1.Sig.R.l.map (eI .u64)))), (6, (.arr 1 (v1.1.Sig.S.l.map (eI .u64))))]))])), (.im (.ifc 77 (.pim 2 (.st [(1, (eI .i64 v2)), (1, (.ifc 40 (eI .i64 v3)))]))))]), [], 0, [], 1⟩), [], []⟩)], .r [(1, ⟨(.c false [] ⟨[], [(.s [(.n 2), .k, .k, (.n 2), (.n 1)])], [], 0, (.tup [(.im (.sl 1 (v4.1.map (eI .u8)))), (.im (.v .nilIface))]), [], 0, [], 2⟩), [], []⟩)], .r [(1, ⟨(.c false [] ⟨[], [(.s [(.n 2), .k, .k, (.n 2), (.n 1)])], [], 0, (.tup [(.im (.sl 1 (v5.1.map (eI .u8)))), (.im (eI .i64 v5.2))]), [], 0, [], 2⟩), [], []⟩)], .r [], .k ⟨[], [], [], [], [], 0, [], []⟩])
        (r := (.fin (.im (eB false)) [] 0)) (obs := [Ct.Ok PX 32 ⟨[(.im (.sl 1 [(eI .u8 48), (eI .u8 0)]))], [], 0, (.tup [(.im (.st [(1, (.sl 2 (v1.1.Issuer.map eSPart))), (1, (eI .i64 v1.1.This)), (1, (eI .i64 v1.1.Next)), (1, (.sl 2 (v1.1.Gone.map eSGone))), (1, (.sl 1 (v1.1.Body.map (eI .u8)))), (12, (.st [(6, (.arr 1 (v1.1.Sig.R.l.map (eI .u64)))), (6, (.arr 1 (v1.1.Sig.S.l.map (eI .u64))))]))])), (.im (.ifc 77 (.pim 2 (.st [(1, (eI .i64 v2)), (1, (.ifc 40 (eI .i64 v3)))]))))]), [], 0⟩, Ct.Ok PX 18 ⟨[(.im (.st [(1, (.sl 2 [])), (1, (eI .i64 0)), (1, (eI .i64 0)), (1, (.sl 2 [])), (1, (.sl 1 [])), (12, (.st [(6, (.arr 1 [(eI .u64 0), (eI .u64 0), (eI .u64 0), (eI .u64 0), (eI .u64 0), (eI .u64 0)])), (6, (.arr 1 [(eI .u64 0), (eI .u64 0), (eI .u64 0), (eI .u64 0), (eI .u64 0), (eI .u64 0)]))]))]))], [], 0, (.tup [(.im (.sl 1 (v4.1.map (eI .u8)))), (.im (.v .nilIface))]), [], 0⟩, Ct.Ok PX 19 ⟨[(.im (.st [(1, (.sl 2 [])), (1, (eI .i64 0)), (1, (eI .i64 0)), (1, (.sl 2 [])), (1, (.sl 1 [])), (12, (.st [(6, (.arr 1 [(eI .u64 0), (eI .u64 0), (eI .u64 0), (eI .u64 0), (eI .u64 0), (eI .u64 0)])), (6, (.arr 1 [(eI .u64 0), (eI .u64 0), (eI .u64 0), (eI .u64 0), (eI .u64 0), (eI .u64 0)]))]))]))], [], 0, (.tup [(.im (.sl 1 (v5.1.map (eI .u8)))), (.im (eI .i64 v5.2))]), [], 0⟩])
        (by kernel_rfl) ⟨(by have q := (f32_ok k [48, 0] v1 h1); rw [h2] at q; exact q), (by have q := (f18_ok k (SCrl.mk [] 0 0 [] [] (SSig.mk (⟨[0, 0, 0, 0, 0, 0], rfl⟩ : Arr 6) (⟨[0, 0, 0, 0, 0, 0], rfl⟩ : Arr 6))) v4 h3); rw [h4] at q; exact q), (f19_ok k (SCrl.mk [] 0 0 [] [] (SSig.mk (⟨[0, 0, 0, 0, 0, 0], rfl⟩ : Arr 6) (⟨[0, 0, 0, 0, 0, 0], rfl⟩ : Arr 6))) v5 h5), trivial⟩ (fun fn hfn => ⟨rfl, rfl, rfl⟩)
    · rw [h4] at h; dsimp only [Er.on] at h
      obtain ⟨v6, h5, h⟩ := bnd h
      replace h := Option.some.inj h; subst h
      exact Ct.ofWalk hT hm F16 (by kernel_rfl) (n := 1000) (ds := [.r [], .r [(1, ⟨(.c false [0] ⟨[], [], [], 0, (.tup [(.im (.st [(1, (.sl 2 (v1.1.Issuer.map eSPart))), (1, (eI .i64 v1.1.This)), (1, (eI .i64 v1.1.Next)), (1, (.sl 2 (v1.1.Gone.map eSGone))), (1, (.sl 1 (v1.1.Body.map (eI .u8)))), (12, (.st [(6, (.arr 1 (v1.1.Sig.R.l.map (eI .u64)))), (6, (.arr 1 (v1.1.Sig.S.l.map (eI .u64))))]))])), (.im (.ifc 77 (.pim 2 (.st [(1, (eI .i64 v2)), (1, (.ifc 40 (eI .i64 v3)))]))))]), [], 0, [], 1⟩), [], []⟩)], .r [(1, ⟨(.c false [] ⟨[], [(.s [(.n 2), .k, .k, (.n 2), (.n 1)])], [], 0, (.tup [(.im (.sl 1 (v4.1.map (eI .u8)))), (.im (.ifc 40 (eI .i64 v5)))]), [], 0, [], 2⟩), [], []⟩)], .r [(1, ⟨(.c false [] ⟨[], [(.s [(.n 2), .k, .k, (.n 2), (.n 1)])], [], 0, (.tup [(.im (.sl 1 (v6.1.map (eI .u8)))), (.im (eI .i64 v6.2))]), [], 0, [], 2⟩), [], []⟩)], .r [], .k ⟨[], [], [], [], [], 0, [], []⟩])
        (r := (.fin (.im (eB false)) [] 0)) (obs := [Ct.Ok PX 32 ⟨[(.im (.sl 1 [(eI .u8 48), (eI .u8 0)]))], [], 0, (.tup [(.im (.st [(1, (.sl 2 (v1.1.Issuer.map eSPart))), (1, (eI .i64 v1.1.This)), (1, (eI .i64 v1.1.Next)), (1, (.sl 2 (v1.1.Gone.map eSGone))), (1, (.sl 1 (v1.1.Body.map (eI .u8)))), (12, (.st [(6, (.arr 1 (v1.1.Sig.R.l.map (eI .u64)))), (6, (.arr 1 (v1.1.Sig.S.l.map (eI .u64))))]))])), (.im (.ifc 77 (.pim 2 (.st [(1, (eI .i64 v2)), (1, (.ifc 40 (eI .i64 v3)))]))))]), [], 0⟩, Ct.Ok PX 18 ⟨[(.im (.st [(1, (.sl 2 [])), (1, (eI .i64 0)), (1, (eI .i64 0)), (1, (.sl 2 [])), (1, (.sl 1 [])), (12, (.st [(6, (.arr 1 [(eI .u64 0), (eI .u64 0), (eI .u64 0), (eI .u64 0), (eI .u64 0), (eI .u64 0)])), (6, (.arr 1 [(eI .u64 0), (eI .u64 0), (eI .u64 0), (eI .u64 0), (eI .u64 0), (eI .u64 0)]))]))]))], [], 0, (.tup [(.im (.sl 1 (v4.1.map (eI .u8)))), (.im (.ifc 40 (eI .i64 v5)))]), [], 0⟩, Ct.Ok PX 19 ⟨[(.im (.st [(1, (.sl 2 [])), (1, (eI .i64 0)), (1, (eI .i64 0)), (1, (.sl 2 [])), (1, (.sl 1 [])), (12, (.st [(6, (.arr 1 [(eI .u64 0), (eI .u64 0), (eI .u64 0), (eI .u64 0), (eI .u64 0), (eI .u64 0)])), (6, (.arr 1 [(eI .u64 0), (eI .u64 0), (eI .u64 0), (eI .u64 0), (eI .u64 0), (eI .u64 0)]))]))]))], [], 0, (.tup [(.im (.sl 1 (v6.1.map (eI .u8)))), (.im (eI .i64 v6.2))]), [], 0⟩])
        (by kernel_rfl) ⟨(by have q := (f32_ok k [48, 0] v1 h1); rw [h2] at q; exact q), (by have q := (f18_ok k (SCrl.mk [] 0 0 [] [] (SSig.mk (⟨[0, 0, 0, 0, 0, 0], rfl⟩ : Arr 6) (⟨[0, 0, 0, 0, 0, 0], rfl⟩ : Arr 6))) v4 h3); rw [h4] at q; exact q), (f19_ok k (SCrl.mk [] 0 0 [] [] (SSig.mk (⟨[0, 0, 0, 0, 0, 0], rfl⟩ : Arr 6) (⟨[0, 0, 0, 0, 0, 0], rfl⟩ : Arr 6))) v6 h5), trivial⟩ (fun fn hfn => ⟨rfl, rfl, rfl⟩)
    · rw [h4] at h; dsimp only [Er.on] at h
      obtain ⟨v7, h5, h⟩ := bnd h
      replace h := Option.some.inj h; subst h
      exact Ct.ofWalk hT hm F16 (by kernel_rfl) (n := 1000) (ds := [.r [], .r [(1, ⟨(.c false [0] ⟨[], [], [], 0, (.tup [(.im (.st [(1, (.sl 2 (v1.1.Issuer.map eSPart))), (1, (eI .i64 v1.1.This)), (1, (eI .i64 v1.1.Next)), (1, (.sl 2 (v1.1.Gone.map eSGone))), (1, (.sl 1 (v1.1.Body.map (eI .u8)))), (12, (.st [(6, (.arr 1 (v1.1.Sig.R.l.map (eI .u64)))), (6, (.arr 1 (v1.1.Sig.S.l.map (eI .u64))))]))])), (.im (.ifc 77 (.pim 2 (.st [(1, (eI .i64 v2)), (1, (.ifc 40 (eI .i64 v3)))]))))]), [], 0, [], 1⟩), [], []⟩)], .r [(1, ⟨(.c false [] ⟨[], [(.s [(.n 2), .k, .k, (.n 2), (.n 1)])], [], 0, (.tup [(.im (.sl 1 (v4.1.map (eI .u8)))), (.im (.ifc 77 (.pim 2 (.st [(1, (eI .i64 v5)), (1, (.ifc 40 (eI .i64 v6)))]))))]), [], 0, [], 2⟩), [], []⟩)], .r [(1, ⟨(.c false [] ⟨[], [(.s [(.n 2), .k, .k, (.n 2), (.n 1)])], [], 0, (.tup [(.im (.sl 1 (v7.1.map (eI .u8)))), (.im (eI .i64 v7.2))]), [], 0, [], 2⟩), [], []⟩)], .r [], .k ⟨[], [], [], [], [], 0, [], []⟩])
        (r := (.fin (.im (eB false)) [] 0)) (obs := [Ct.Ok PX 32 ⟨[(.im (.sl 1 [(eI .u8 48), (eI .u8 0)]))], [], 0, (.tup [(.im (.st [(1, (.sl 2 (v1.1.Issuer.map eSPart))), (1, (eI .i64 v1.1.This)), (1, (eI .i64 v1.1.Next)), (1, (.sl 2 (v1.1.Gone.map eSGone))), (1, (.sl 1 (v1.1.Body.map (eI .u8)))), (12, (.st [(6, (.arr 1 (v1.1.Sig.R.l.map (eI .u64)))), (6, (.arr 1 (v1.1.Sig.S.l.map (eI .u64))))]))])), (.im (.ifc 77 (.pim 2 (.st [(1, (eI .i64 v2)), (1, (.ifc 40 (eI .i64 v3)))]))))]), [], 0⟩, Ct.Ok PX 18 ⟨[(.im (.st [(1, (.sl 2 [])), (1, (eI .i64 0)), (1, (eI .i64 0)), (1, (.sl 2 [])), (1, (.sl 1 [])), (12, (.st [(6, (.arr 1 [(eI .u64 0), (eI .u64 0), (eI .u64 0), (eI .u64 0), (eI .u64 0), (eI .u64 0)])), (6, (.arr 1 [(eI .u64 0), (eI .u64 0), (eI .u64 0), (eI .u64 0), (eI .u64 0), (eI .u64 0)]))]))]))], [], 0, (.tup [(.im (.sl 1 (v4.1.map (eI .u8)))), (.im (.ifc 77 (.pim 2 (.st [(1, (eI .i64 v5)), (1, (.ifc 40 (eI .i64 v6)))]))))]), [], 0⟩, Ct.Ok PX 19 ⟨[(.im (.st [(1, (.sl 2 [])), (1, (eI .i64 0)), (1, (eI .i64 0)), (1, (.sl 2 [])), (1, (.sl 1 [])), (12, (.st [(6, (.arr 1 [(eI .u64 0), (eI .u64 0), (eI .u64 0), (eI .u64 0), (eI .u64 0), (eI .u64 0)])), (6, (.arr 1 [(eI .u64 0), (eI .u64 0), (eI .u64 0), (eI .u64 0), (eI .u64 0), (eI .u64 0)]))]))]))], [], 0, (.tup [(.im (.sl 1 (v7.1.map (eI .u8)))), (.im (eI .i64 v7.2))]), [], 0⟩])
        (by kernel_rfl) ⟨(by have q := (f32_ok k [48, 0] v1 h1); rw [h2] at q; exact q), (by have q := (f18_ok k (SCrl.mk [] 0 0 [] [] (SSig.mk (⟨[0, 0, 0, 0, 0, 0], rfl⟩ : Arr 6) (⟨[0, 0, 0, 0, 0, 0], rfl⟩ : Arr 6))) v4 h3); rw [h4] at q; exact q), (f19_ok k (SCrl.mk [] 0 0 [] [] (SSig.mk (⟨[0, 0, 0, 0, 0, 0], rfl⟩ : Arr 6) (⟨[0, 0, 0, 0, 0, 0], rfl⟩ : Arr 6))) v7 h5), trivial⟩ (fun fn hfn => ⟨rfl, rfl, rfl⟩)
end Go.Proofs.Tryd.E
end

section
namespace Go.Proofs.Tryd.E
open Go Go.Eng
set_option maxRecDepth 100000
set_option linter.unusedVariables false
def f50 (k : Nat) (p0 : (List Int)) (p1 : (List Int)) : Option (Bool) :=
  some ((bytesOf p0).data.toList == (bytesOf p1).data.toList)

theorem f50_ok (k : Nat) : ∀ (p0 : (List Int)) (p1 : (List Int)) (r : Bool), f50 k p0 p1 = some r → Ct.Ok PX 50 ⟨[(.im (.sl 1 (p0.map (eI .u8)))), (.im (.sl 1 (p1.map (eI .u8))))], [], 0, (.im (eB r)), [], 0⟩ := by
  intro p0 p1 r h
  unfold f50 at h
  replace h := Option.some.inj h; subst h
  exact Ct.ofWalk hT hm F50 (by kernel_rfl) (n := 1000) (ds := [.r [], .r [(1, ⟨(.h (.ints p0)), [], []⟩), (3, ⟨(.h (.ints p1)), [], []⟩)], .k ⟨[], [], [], [], [], 0, [], []⟩])
    (r := (.fin (.im (eB ((bytesOf p0).data.toList == (bytesOf p1).data.toList))) [] 0)) (obs := [(p0.map (eI .u8)) = (p0.map fun n => IV.v (.int .u8 n)), (p1.map (eI .u8)) = (p1.map fun n => IV.v (.int .u8 n))])
    (by kernel_rfl) ⟨rfl, rfl, trivial⟩ (fun fn hfn => ⟨rfl, rfl, rfl⟩)

def f49 (k : Nat) (p0 : SGone) (p1 : (List Int)) : Option (Bool) :=
  (f50 k p0.Serial p1).bind fun v1 =>
  some v1

theorem f49_ok (k : Nat) : ∀ (p0 : SGone) (p1 : (List Int)) (r : Bool), f49 k p0 p1 = some r → Ct.Ok PX 49 ⟨[(.im (.st [(1, (.sl 1 (p0.Serial.map (eI .u8)))), (1, (eI .i64 p0.At))])), (.im (.pim 1 (.sl 1 (p1.map (eI .u8)))))], [], 0, (.im (eB r)), [], 0⟩ := by
  intro p0 p1 r h
  unfold f49 at h
  obtain ⟨v1, h1, h⟩ := bnd h
  replace h := Option.some.inj h; subst h
  exact Ct.ofWalk hT hm F49 (by kernel_rfl) (n := 1000) (ds := [.r [], .r [(3, ⟨(.c false [] ⟨[], [], [], 0, (.im (eB v1)), [], 0, [], 1⟩), [], []⟩)], .k ⟨[], [], [], [], [], 0, [], []⟩])
    (r := (.fin (.im (eB v1)) [] 0)) (obs := [Ct.Ok PX 50 ⟨[(.im (.sl 1 (p0.Serial.map (eI .u8)))), (.im (.sl 1 (p1.map (eI .u8))))], [], 0, (.im (eB v1)), [], 0⟩])
    (by kernel_rfl) ⟨(f50_ok k p0.Serial p1 v1 h1), trivial⟩ (fun fn hfn => ⟨rfl, rfl, rfl⟩)

def f90L0_S (p0 : (List SGone)) (p1 : (List Int)) (x2 : Int) : S := ⟨[(0, (.im (.sl 2 (p0.map eSGone)))), (1, (.im (.fn 49 [(.pim 1 (.sl 1 (p1.map (eI .u8))))]))), (7, (.im (eI .i64 (p0.length : Int)))), (8, (.im (eI .i64 x2)))], [], 0⟩

def f90L0 : Nat → (List SGone) → (List Int) → Int → Option (Int)
  | 0, _, _, _ => none
  | k + 1, p0, p1, x2 =>
    if x2 < (p0.length : Int) then (
     (rd p0 x2).bind fun v1 =>
     (f49 k v1 p1).bind fun v2 =>
     if v2 = true then (
      some x2)
     else (
      f90L0 k p0 p1 (IntKind.wrap .i64 (x2 + 1))))
    else (
     some (-1))

def f90L0_P (k : Nat) : Prop := ∀ (fn : Func) (_ : fn.results = ([.t 4].map Rv.var).toArray), ∀ (p0 : (List SGone)) (p1 : (List Int)) (x2 : Int) (r : Int), f90L0 k p0 p1 x2 = some r → LH PX ⟨fn, 19, 0, (.im (eI .i64 r)), [], 0⟩ cc90_0 [.blk 0, .seq cc90_1] (f90L0_S p0 p1 x2)

theorem f90L0_step (k : Nat) (ih_f90L0 : f90L0_P k) : f90L0_P (k + 1) := by
  intro fn hfn p0 p1 x2 r h
  rw [f90L0] at h
  by_cases h1 : x2 < (p0.length : Int)
  · rw [if_pos h1] at h
    obtain ⟨v1, h2, h⟩ := bnd h
    obtain ⟨v2, h3, h⟩ := bnd h
    by_cases h4 : v2 = true
    · rw [if_pos h4] at h
      replace h := Option.some.inj h; subst h
      exact LH.round hT hm hfn (n := 1000) (ds := [.r [], .b true, .r [], .r [(3, ⟨(.h (.iv (.st [(1, (.sl 1 (v1.Serial.map (eI .u8)))), (1, (eI .i64 v1.At))]))), [], []⟩), (5, ⟨(.c false [] ⟨[], [], [], 0, (.im (eB v2)), [], 0, [], 0⟩), [], []⟩)], .b true, .r [], .k ⟨[], [], [], [], [], 0, [], []⟩])
        (r := (.fin (.im (eI .i64 x2)) [] 0)) (obs := [(decide (x2 < (p0.length : Int))) = true, 0 ≤ x2, (p0.map eSGone)[(x2).toNat]? = some (.st [(1, (.sl 1 (v1.Serial.map (eI .u8)))), (1, (eI .i64 v1.At))]), Ct.Ok PX 49 ⟨[(.im (.st [(1, (.sl 1 (v1.Serial.map (eI .u8)))), (1, (eI .i64 v1.At))])), (.im (.pim 1 (.sl 1 (p1.map (eI .u8)))))], [], 0, (.im (eB v2)), [], 0⟩, v2 = true])
        (by kernel_rfl) ⟨(dt h1), (rd_nn h2), (rd_map eSGone h2), (f49_ok k v1 p1 v2 h3), h4, trivial⟩ ⟨rfl, rfl, rfl⟩
    · rw [if_neg h4] at h
      exact LH.round hT hm hfn (n := 1000) (ds := [.r [], .b true, .r [], .r [(3, ⟨(.h (.iv (.st [(1, (.sl 1 (v1.Serial.map (eI .u8)))), (1, (eI .i64 v1.At))]))), [], []⟩), (5, ⟨(.c false [] ⟨[], [], [], 0, (.im (eB v2)), [], 0, [], 0⟩), [], []⟩)], .b false, .r [], .k ⟨[], [], [], [0, 1, 7, 8], [], 0, [], []⟩])
        (r := (.head cc90_0 [.blk 0, .seq cc90_1] (f90L0_S p0 p1 (IntKind.wrap .i64 (x2 + 1))))) (obs := [(decide (x2 < (p0.length : Int))) = true, 0 ≤ x2, (p0.map eSGone)[(x2).toNat]? = some (.st [(1, (.sl 1 (v1.Serial.map (eI .u8)))), (1, (eI .i64 v1.At))]), Ct.Ok PX 49 ⟨[(.im (.st [(1, (.sl 1 (v1.Serial.map (eI .u8)))), (1, (eI .i64 v1.At))])), (.im (.pim 1 (.sl 1 (p1.map (eI .u8)))))], [], 0, (.im (eB v2)), [], 0⟩, v2 = false])
        (by kernel_rfl) ⟨(dt h1), (rd_nn h2), (rd_map eSGone h2), (f49_ok k v1 p1 v2 h3), (vf h4), trivial⟩ (ih_f90L0 fn hfn p0 p1 (IntKind.wrap .i64 (x2 + 1)) _ h)
  · rw [if_neg h1] at h
    replace h := Option.some.inj h; subst h
    exact LH.round hT hm hfn (n := 1000) (ds := [.r [], .b false, .r [], .k ⟨[], [], [], [], [], 0, [], []⟩])
      (r := (.fin (.im (eI .i64 (-1))) [] 0)) (obs := [(decide (x2 < (p0.length : Int))) = false])
      (by kernel_rfl) ⟨(df h1), trivial⟩ ⟨rfl, rfl, rfl⟩

theorem f90L0_all : ∀ k, f90L0_P k
  | 0 => (by intro fn hfn _ _ _ r h; rw [f90L0] at h; cases h)
  | k + 1 => f90L0_step k (f90L0_all k)

theorem f90L0_ok (fn : Func) (hfn : fn.results = ([.t 4].map Rv.var).toArray) (k : Nat) : ∀ (p0 : (List SGone)) (p1 : (List Int)) (x2 : Int) (r : Int), f90L0 k p0 p1 x2 = some r → LH PX ⟨fn, 19, 0, (.im (eI .i64 r)), [], 0⟩ cc90_0 [.blk 0, .seq cc90_1] (f90L0_S p0 p1 x2) := (f90L0_all k) fn hfn

def f90 (k : Nat) (p0 : (List SGone)) (p1 : (List Int)) : Option (Int) :=
  f90L0 k p0 p1 0

theorem f90_ok (k : Nat) : ∀ (p0 : (List SGone)) (p1 : (List Int)) (r : Int), f90 k p0 p1 = some r → Ct.Ok PX 90 ⟨[(.im (.sl 2 (p0.map eSGone))), (.im (.fn 49 [(.pim 1 (.sl 1 (p1.map (eI .u8))))]))], [], 0, (.im (eI .i64 r)), [], 0⟩ := by
  intro p0 p1 r h
  unfold f90 at h
  exact Ct.ofWalk hT hm F90 (by kernel_rfl) (n := 1000) (ds := [.r [], .r [(1, ⟨(.h (.int (p0.length : Int))), [], []⟩)], .k ⟨[], [], [], [0, 1, 7, 8], [], 0, [], []⟩])
    (r := (.head cc90_0 [.blk 0, .seq cc90_1] (f90L0_S p0 p1 0))) (obs := [((p0.map eSGone).length : Int) = (p0.length : Int)])
    (by kernel_rfl) ⟨(len_m eSGone _), trivial⟩ (fun fn hfn => f90L0_ok fn hfn k p0 p1 0 _ h)

def f48 (k : Nat) (p0 : (List SGone)) (p1 : (List Int)) : Option (Bool) :=
  (f90 k p0 p1).bind fun v1 =>
  some (decide (v1 ≥ 0))

theorem f48_ok (k : Nat) : ∀ (p0 : (List SGone)) (p1 : (List Int)) (r : Bool), f48 k p0 p1 = some r → Ct.Ok PX 48 ⟨[(.im (.sl 2 (p0.map eSGone))), (.im (.fn 49 [(.pim 1 (.sl 1 (p1.map (eI .u8))))]))], [], 0, (.im (eB r)), [], 0⟩ := by
  intro p0 p1 r h
  unfold f48 at h
  obtain ⟨v1, h1, h⟩ := bnd h
  replace h := Option.some.inj h; subst h
  exact Ct.ofWalk hT hm F48 (by kernel_rfl) (n := 1000) (ds := [.r [], .r [(2, ⟨(.c false [] ⟨[], [], [], 0, (.im (eI .i64 v1)), [], 0, [], 0⟩), [], []⟩)], .k ⟨[], [], [], [], [], 0, [], []⟩])
    (r := (.fin (.im (eB (decide (v1 ≥ 0)))) [] 0)) (obs := [Ct.Ok PX 90 ⟨[(.im (.sl 2 (p0.map eSGone))), (.im (.fn 49 [(.pim 1 (.sl 1 (p1.map (eI .u8))))]))], [], 0, (.im (eI .i64 v1)), [], 0⟩])
    (by kernel_rfl) ⟨(f90_ok k p0 p1 v1 h1), trivial⟩ (fun fn hfn => ⟨rfl, rfl, rfl⟩)

def f20 (k : Nat) (p0 : SCrl) (p1 : (List Int)) : Option (Bool) :=
  (f48 k p0.Gone p1).bind fun v1 =>
  some v1

theorem f20_ok (k : Nat) : ∀ (p0 : SCrl) (p1 : (List Int)) (r : Bool), f20 k p0 p1 = some r → Ct.Ok PX 20 ⟨[(.im (.st [(1, (.sl 2 (p0.Issuer.map eSPart))), (1, (eI .i64 p0.This)), (1, (eI .i64 p0.Next)), (1, (.sl 2 (p0.Gone.map eSGone))), (1, (.sl 1 (p0.Body.map (eI .u8)))), (12, (.st [(6, (.arr 1 (p0.Sig.R.l.map (eI .u64)))), (6, (.arr 1 (p0.Sig.S.l.map (eI .u64))))]))])), (.im (.sl 1 (p1.map (eI .u8))))], [], 0, (.im (eB r)), [], 0⟩ := by
  intro p0 p1 r h
  unfold f20 at h
  obtain ⟨v1, h1, h⟩ := bnd h
  replace h := Option.some.inj h; subst h
  exact Ct.ofWalk hT hm F20 (by kernel_rfl) (n := 1000) (ds := [.r [], .r [(3, ⟨(.c false [1] ⟨[], [], [], 0, (.im (eB v1)), [], 0, [], 2⟩), [], []⟩)], .k ⟨[], [], [], [], [], 0, [], []⟩])
    (r := (.fin (.im (eB v1)) [] 0)) (obs := [Ct.Ok PX 48 ⟨[(.im (.sl 2 (p0.Gone.map eSGone))), (.im (.fn 49 [(.pim 1 (.sl 1 (p1.map (eI .u8))))]))], [], 0, (.im (eB v1)), [], 0⟩])
    (by kernel_rfl) ⟨(f48_ok k p0.Gone p1 v1 h1), trivial⟩ (fun fn hfn => ⟨rfl, rfl, rfl⟩)
end Go.Proofs.Tryd.E
end

section
namespace Go.Proofs.Tryd.E
open Go Go.Eng
set_option maxRecDepth 100000
set_option linter.unusedVariables false
def f5L0_S (p0 : SCrl) (p1 : (List Int)) (x1 : Bool) (x2 : Bool) (x3 : Int) : S := ⟨[(1, (.im (.sl 1 (p1.map (eI .u8))))), (2, (.ref 0 [])), (5, (.im (eB x1))), (6, (.im (eB x2))), (7, (.im (eI .i64 x3)))], [(0, (.box false 17 (.im (.st [(1, (.sl 2 (p0.Issuer.map eSPart))), (1, (eI .i64 p0.This)), (1, (eI .i64 p0.Next)), (1, (.sl 2 (p0.Gone.map eSGone))), (1, (.sl 1 (p0.Body.map (eI .u8)))), (12, (.st [(6, (.arr 1 (p0.Sig.R.l.map (eI .u64)))), (6, (.arr 1 (p0.Sig.S.l.map (eI .u64))))]))]))))], 1⟩

def f5L0 : Nat → SCrl → (List Int) → Bool → Bool → Int → Option (Bool)
  | 0, _, _, _, _, _ => none
  | k + 1, p0, p1, x1, x2, x3 =>
    if x3 < (p0.Gone.length : Int) then (
     if x2 = true then (
      f5L0 k p0 p1 x1 true (IntKind.wrap .i64 (x3 + 1)))
     else (
      (rd p0.Gone x3).bind fun v1 =>
      f5L0 k p0 p1 x1 ((bytesOf v1.Serial).data.toList == (bytesOf p1).data.toList) (IntKind.wrap .i64 (x3 + 1))))
    else (
     (ap 32 [] p0.Gone).bind fun v1 =>
     (ap 32 v1 [(SGone.mk p1 0)]).bind fun v2 =>
     if x1 = true then (
      (f20 k p0 p1).bind fun v3 =>
      if v3 = x2 then (
       (f20 k (SCrl.mk [] 0 0 v2 [] (SSig.mk (⟨[0, 0, 0, 0, 0, 0], rfl⟩ : Arr 6) (⟨[0, 0, 0, 0, 0, 0], rfl⟩ : Arr 6))) p1).bind fun v4 =>
       some v4)
      else (
       some false))
     else (
      some false))

def f5L0_P (k : Nat) : Prop := ∀ (fn : Func) (_ : fn.results = ([.t 4].map Rv.var).toArray), ∀ (p0 : SCrl) (p1 : (List Int)) (x1 : Bool) (x2 : Bool) (x3 : Int) (r : Bool), f5L0 k p0 p1 x1 x2 x3 = some r → LH PX ⟨fn, 53, 0, (.im (eB r)), [], 0⟩ cc5_0 [.blk 0, .seq cc5_1] (f5L0_S p0 p1 x1 x2 x3)

theorem f5L0_step (k : Nat) (ih_f5L0 : f5L0_P k) : f5L0_P (k + 1) := by
  intro fn hfn p0 p1 x1 x2 x3 r h
  rw [f5L0] at h
  by_cases h1 : x3 < (p0.Gone.length : Int)
  · rw [if_pos h1] at h
    by_cases h2 : x2 = true
    · rw [if_pos h2] at h
      exact LH.round hT hm hfn (n := 1000) (ds := [.r [(3, ⟨(.h (.int (p0.Gone.length : Int))), [], []⟩)], .b true, .r [(2, ⟨(.h .gf), [], []⟩), (3, ⟨(.h .gf), [], []⟩), (4, ⟨(.h .gf), [], []⟩), (5, ⟨(.h .gf), [], []⟩), (6, ⟨(.h .gf), [], []⟩), (7, ⟨(.h .gf), [], []⟩), (8, ⟨(.h .gf), [], []⟩), (9, ⟨(.h .gf), [], []⟩), (10, ⟨(.h .gf), [], []⟩), (11, ⟨(.h .gf), [], []⟩), (12, ⟨(.h (.gt .no)), [], []⟩)], .r [], .k ⟨[], [], [], [1, 2, 5, 6, 7], [(0, 0)], 1, [], []⟩])
        (r := (.head cc5_0 [.blk 0, .seq cc5_1] (f5L0_S p0 p1 x1 true (IntKind.wrap .i64 (x3 + 1))))) (obs := [((p0.Gone.map eSGone).length : Int) = (p0.Gone.length : Int), (decide (x3 < (p0.Gone.length : Int))) = true, x2 = !false, x2 = !false, x2 = !false, x2 = !false, x2 = !false, x2 = !false, x2 = !false, x2 = !false, x2 = !false, x2 = !false, x2 = true])
        (by kernel_rfl) ⟨(len_m eSGone _), (dt h1), h2, h2, h2, h2, h2, h2, h2, h2, h2, h2, h2, trivial⟩ (ih_f5L0 fn hfn p0 p1 x1 true (IntKind.wrap .i64 (x3 + 1)) _ h)
    · rw [if_neg h2] at h
      obtain ⟨v1, h3, h⟩ := bnd h
      exact LH.round hT hm hfn (n := 1000) (ds := [.r [(3, ⟨(.h (.int (p0.Gone.length : Int))), [], []⟩)], .b true, .r [(2, ⟨(.h (.gt .no)), [], []⟩), (3, ⟨(.h (.gt .no)), [], []⟩), (4, ⟨(.h (.gt .no)), [], []⟩), (5, ⟨(.h (.gt (.iv (.st [(1, (.sl 1 (v1.Serial.map (eI .u8)))), (1, (eI .i64 v1.At))])))), [], []⟩), (6, ⟨(.h (.gt .no)), [], []⟩), (7, ⟨(.h (.gt .no)), [], []⟩), (8, ⟨(.h (.gt (.ints v1.Serial))), [], []⟩), (9, ⟨(.h (.gt .no)), [], []⟩), (10, ⟨(.h (.gt (.ints p1))), [], []⟩), (11, ⟨(.h (.gt .no)), [], []⟩), (12, ⟨(.h .gf), [], []⟩)], .r [], .k ⟨[], [], [], [1, 2, 5, 6, 7], [(0, 0)], 1, [], []⟩])
        (r := (.head cc5_0 [.blk 0, .seq cc5_1] (f5L0_S p0 p1 x1 ((bytesOf v1.Serial).data.toList == (bytesOf p1).data.toList) (IntKind.wrap .i64 (x3 + 1))))) (obs := [((p0.Gone.map eSGone).length : Int) = (p0.Gone.length : Int), (decide (x3 < (p0.Gone.length : Int))) = true, x2 = false, x2 = false, x2 = false, x2 = false, 0 ≤ x3, (p0.Gone.map eSGone)[(x3).toNat]? = some (.st [(1, (.sl 1 (v1.Serial.map (eI .u8)))), (1, (eI .i64 v1.At))]), x2 = false, x2 = false, x2 = false, (v1.Serial.map (eI .u8)) = (v1.Serial.map fun n => IV.v (.int .u8 n)), x2 = false, x2 = false, (p1.map (eI .u8)) = (p1.map fun n => IV.v (.int .u8 n)), x2 = false, x2 = false])
        (by kernel_rfl) ⟨(len_m eSGone _), (dt h1), (vf h2), (vf h2), (vf h2), (vf h2), (rd_nn h3), (rd_map eSGone h3), (vf h2), (vf h2), (vf h2), rfl, (vf h2), (vf h2), rfl, (vf h2), (vf h2), trivial⟩ (ih_f5L0 fn hfn p0 p1 x1 ((bytesOf v1.Serial).data.toList == (bytesOf p1).data.toList) (IntKind.wrap .i64 (x3 + 1)) _ h)
  · rw [if_neg h1] at h
    obtain ⟨v1, h2, h⟩ := bnd h
    obtain ⟨v2, h3, h⟩ := bnd h
    by_cases h4 : x1 = true
    · rw [if_pos h4] at h
      obtain ⟨v3, h5, h⟩ := bnd h
      by_cases h6 : v3 = x2
      · rw [if_pos h6] at h
        obtain ⟨v4, h7, h⟩ := bnd h
        replace h := Option.some.inj h; subst h
        exact LH.round hT hm hfn (n := 1000) (ds := [.r [(3, ⟨(.h (.int (p0.Gone.length : Int))), [], []⟩)], .b false, .r [(3, ⟨(.h (.ivs (v1.map eSGone))), [], []⟩)], .r [(4, ⟨(.h (.ivs (v2.map eSGone))), [], []⟩)], .r [(2, ⟨(.h (.gt .no)), [], []⟩), (3, ⟨(.h (.gt .no)), [], []⟩), (4, ⟨(.c true [] ⟨[], [], [], 0, (.im (eB v3)), [], 0, [], 5⟩), [], []⟩), (5, ⟨(.h (.gt .no)), [], []⟩), (6, ⟨(.h (.gt .no)), [], []⟩), (7, ⟨(.h (.gt .no)), [], []⟩), (9, ⟨(.h (.gt .no)), [], []⟩), (10, ⟨(.h (.gt .no)), [], []⟩), (11, ⟨(.h (.gt .no)), [], []⟩), (12, ⟨(.c true [4] ⟨[], [(.s [(.n 2), .k, .k, .k, (.n 1)])], [], 0, (.im (eB v4)), [], 0, [], 5⟩), [], []⟩), (13, ⟨(.h (.gt .no)), [], []⟩)], .k ⟨[], [], [], [], [], 0, [], []⟩])
          (r := (.fin (.im (eB v4)) [] 0)) (obs := [((p0.Gone.map eSGone).length : Int) = (p0.Gone.length : Int), (decide (x3 < (p0.Gone.length : Int))) = false, [] ++ (p0.Gone.map eSGone) = (v1.map eSGone), (v1.map eSGone).length * 32 ≤ 140737488355328, (v1.map eSGone).length ≤ 9223372036854775807, (v1.map eSGone) ++ [(.st [(1, (.sl 1 (p1.map (eI .u8)))), (1, (eI .i64 0))])] = (v2.map eSGone), (v2.map eSGone).length * 32 ≤ 140737488355328, (v2.map eSGone).length ≤ 9223372036854775807, x1 = true, x1 = true, x1 = true, Ct.Ok PX 20 ⟨[(.im (.st [(1, (.sl 2 (p0.Issuer.map eSPart))), (1, (eI .i64 p0.This)), (1, (eI .i64 p0.Next)), (1, (.sl 2 (p0.Gone.map eSGone))), (1, (.sl 1 (p0.Body.map (eI .u8)))), (12, (.st [(6, (.arr 1 (p0.Sig.R.l.map (eI .u64)))), (6, (.arr 1 (p0.Sig.S.l.map (eI .u64))))]))])), (.im (.sl 1 (p1.map (eI .u8))))], [], 0, (.im (eB v3)), [], 0⟩, x1 = true, x1 = true, x1 = true, (v3 == x2) = true, (v3 == x2) = true, sizeP (.ownF 2 4) = 1, (v3 == x2) = true, (v3 == x2) = true, Ct.Ok PX 20 ⟨[(.im (.st [(1, (.sl 2 [])), (1, (eI .i64 0)), (1, (eI .i64 0)), (1, (.sl 2 (v2.map eSGone))), (1, (.sl 1 [])), (12, (.st [(6, (.arr 1 [(eI .u64 0), (eI .u64 0), (eI .u64 0), (eI .u64 0), (eI .u64 0), (eI .u64 0)])), (6, (.arr 1 [(eI .u64 0), (eI .u64 0), (eI .u64 0), (eI .u64 0), (eI .u64 0), (eI .u64 0)]))]))])), (.im (.sl 1 (p1.map (eI .u8))))], [], 0, (.im (eB v4)), [], 0⟩, (v3 == x2) = true])
          (by kernel_rfl) ⟨(len_m eSGone _), (df h1), (ap_map eSGone h2), (ap_b eSGone h2), (ap_n eSGone h2), (ap_map eSGone h3), (ap_b eSGone h3), (ap_n eSGone h3), h4, h4, h4, (f20_ok k p0 p1 v3 h5), h4, h4, h4, (bt h6), (bt h6), rfl, (bt h6), (bt h6), (f20_ok k (SCrl.mk [] 0 0 v2 [] (SSig.mk (⟨[0, 0, 0, 0, 0, 0], rfl⟩ : Arr 6) (⟨[0, 0, 0, 0, 0, 0], rfl⟩ : Arr 6))) p1 v4 h7), (bt h6), trivial⟩ ⟨rfl, rfl, rfl⟩
      · rw [if_neg h6] at h
        replace h := Option.some.inj h; subst h
        exact LH.round hT hm hfn (n := 1000) (ds := [.r [(3, ⟨(.h (.int (p0.Gone.length : Int))), [], []⟩)], .b false, .r [(3, ⟨(.h (.ivs (v1.map eSGone))), [], []⟩)], .r [(4, ⟨(.h (.ivs (v2.map eSGone))), [], []⟩)], .r [(2, ⟨(.h (.gt .no)), [], []⟩), (3, ⟨(.h (.gt .no)), [], []⟩), (4, ⟨(.c true [] ⟨[], [], [], 0, (.im (eB v3)), [], 0, [], 5⟩), [], []⟩), (5, ⟨(.h (.gt .no)), [], []⟩), (6, ⟨(.h (.gt .no)), [], []⟩), (7, ⟨(.h (.gt .no)), [], []⟩), (9, ⟨(.h .gf), [], []⟩), (10, ⟨(.h .gf), [], []⟩), (11, ⟨(.h .gf), [], []⟩), (12, ⟨(.h .gf), [], []⟩), (13, ⟨(.h .gf), [], []⟩)], .k ⟨[], [], [], [], [], 0, [], []⟩])
          (r := (.fin (.im (eB false)) [] 0)) (obs := [((p0.Gone.map eSGone).length : Int) = (p0.Gone.length : Int), (decide (x3 < (p0.Gone.length : Int))) = false, [] ++ (p0.Gone.map eSGone) = (v1.map eSGone), (v1.map eSGone).length * 32 ≤ 140737488355328, (v1.map eSGone).length ≤ 9223372036854775807, (v1.map eSGone) ++ [(.st [(1, (.sl 1 (p1.map (eI .u8)))), (1, (eI .i64 0))])] = (v2.map eSGone), (v2.map eSGone).length * 32 ≤ 140737488355328, (v2.map eSGone).length ≤ 9223372036854775807, x1 = true, x1 = true, x1 = true, Ct.Ok PX 20 ⟨[(.im (.st [(1, (.sl 2 (p0.Issuer.map eSPart))), (1, (eI .i64 p0.This)), (1, (eI .i64 p0.Next)), (1, (.sl 2 (p0.Gone.map eSGone))), (1, (.sl 1 (p0.Body.map (eI .u8)))), (12, (.st [(6, (.arr 1 (p0.Sig.R.l.map (eI .u64)))), (6, (.arr 1 (p0.Sig.S.l.map (eI .u64))))]))])), (.im (.sl 1 (p1.map (eI .u8))))], [], 0, (.im (eB v3)), [], 0⟩, x1 = true, x1 = true, x1 = true, (v3 == x2) = !true, (v3 == x2) = !true, (v3 == x2) = !true, (v3 == x2) = !true, (v3 == x2) = false])
          (by kernel_rfl) ⟨(len_m eSGone _), (df h1), (ap_map eSGone h2), (ap_b eSGone h2), (ap_n eSGone h2), (ap_map eSGone h3), (ap_b eSGone h3), (ap_n eSGone h3), h4, h4, h4, (f20_ok k p0 p1 v3 h5), h4, h4, h4, (bf h6), (bf h6), (bf h6), (bf h6), (bf h6), trivial⟩ ⟨rfl, rfl, rfl⟩
    · rw [if_neg h4] at h
      replace h := Option.some.inj h; subst h
      exact LH.round hT hm hfn (n := 1000) (ds := [.r [(3, ⟨(.h (.int (p0.Gone.length : Int))), [], []⟩)], .b false, .r [(3, ⟨(.h (.ivs (v1.map eSGone))), [], []⟩)], .r [(4, ⟨(.h (.ivs (v2.map eSGone))), [], []⟩)], .r [(2, ⟨(.h .gf), [], []⟩), (3, ⟨(.h .gf), [], []⟩), (4, ⟨(.h .gf), [], []⟩), (5, ⟨(.h .gf), [], []⟩), (6, ⟨(.h .gf), [], []⟩), (7, ⟨(.h .gf), [], []⟩)], .k ⟨[], [], [], [], [], 0, [], []⟩])
        (r := (.fin (.im (eB false)) [] 0)) (obs := [((p0.Gone.map eSGone).length : Int) = (p0.Gone.length : Int), (decide (x3 < (p0.Gone.length : Int))) = false, [] ++ (p0.Gone.map eSGone) = (v1.map eSGone), (v1.map eSGone).length * 32 ≤ 140737488355328, (v1.map eSGone).length ≤ 9223372036854775807, (v1.map eSGone) ++ [(.st [(1, (.sl 1 (p1.map (eI .u8)))), (1, (eI .i64 0))])] = (v2.map eSGone), (v2.map eSGone).length * 32 ≤ 140737488355328, (v2.map eSGone).length ≤ 9223372036854775807, x1 = !true, x1 = !true, x1 = !true, x1 = !true, x1 = !true, x1 = false])
        (by kernel_rfl) ⟨(len_m eSGone _), (df h1), (ap_map eSGone h2), (ap_b eSGone h2), (ap_n eSGone h2), (ap_map eSGone h3), (ap_b eSGone h3), (ap_n eSGone h3), (vf h4), (vf h4), (vf h4), (vf h4), (vf h4), (vf h4), trivial⟩ ⟨rfl, rfl, rfl⟩

theorem f5L0_all : ∀ k, f5L0_P k
  | 0 => (by intro fn hfn _ _ _ _ _ r h; rw [f5L0] at h; cases h)
  | k + 1 => f5L0_step k (f5L0_all k)

theorem f5L0_ok (fn : Func) (hfn : fn.results = ([.t 4].map Rv.var).toArray) (k : Nat) : ∀ (p0 : SCrl) (p1 : (List Int)) (x1 : Bool) (x2 : Bool) (x3 : Int) (r : Bool), f5L0 k p0 p1 x1 x2 x3 = some r → LH PX ⟨fn, 53, 0, (.im (eB r)), [], 0⟩ cc5_0 [.blk 0, .seq cc5_1] (f5L0_S p0 p1 x1 x2 x3) := (f5L0_all k) fn hfn

def f5 (k : Nat) (p0 : SCrl) (p1 : (List Int)) : Option (Bool) :=
  (f16 k).bind fun v1 =>
  f5L0 k p0 p1 v1 false 0

theorem f5_ok (k : Nat) : ∀ (p0 : SCrl) (p1 : (List Int)) (r : Bool), f5 k p0 p1 = some r → Ct.Ok PX 5 ⟨[(.im (.st [(1, (.sl 2 (p0.Issuer.map eSPart))), (1, (eI .i64 p0.This)), (1, (eI .i64 p0.Next)), (1, (.sl 2 (p0.Gone.map eSGone))), (1, (.sl 1 (p0.Body.map (eI .u8)))), (12, (.st [(6, (.arr 1 (p0.Sig.R.l.map (eI .u64)))), (6, (.arr 1 (p0.Sig.S.l.map (eI .u64))))]))])), (.im (.sl 1 (p1.map (eI .u8))))], [], 0, (.im (eB r)), [], 0⟩ := by
  intro p0 p1 r h
  unfold f5 at h
  obtain ⟨v1, h1, h⟩ := bnd h
  exact Ct.ofWalk hT hm F5 (by kernel_rfl) (n := 1000) (ds := [.r [], .r [(0, ⟨(.c false [] ⟨[], [], [], 0, (.im (eB v1)), [], 0, [], 1⟩), [], []⟩)], .r [], .r [], .k ⟨[], [], [], [1, 2, 5, 6, 7], [(0, 0)], 1, [], []⟩])
    (r := (.head cc5_0 [.blk 0, .seq cc5_1] (f5L0_S p0 p1 v1 false 0))) (obs := [Ct.Ok PX 16 ⟨[], [], 0, (.im (eB v1)), [], 0⟩])
    (by kernel_rfl) ⟨(f16_ok k v1 h1), trivial⟩ (fun fn hfn => f5L0_ok fn hfn k p0 p1 v1 false 0 _ h)
end Go.Proofs.Tryd.E
end

section
namespace Go.Proofs.Tryd.E
open Go Go.Eng
set_option maxRecDepth 100000
set_option linter.unusedVariables false

theorem wr {n : Int} (h0 : -9223372036854775808 ≤ n) (h1 : n < 9223372036854775808) : IntKind.wrap .i64 n = n := by
  rw [IntKind.wrap_i64]; omega

/-- The days before a year, counted from one day fixed once. -/
def dayD (y : Int) : Int := 365 * y + (y - 1) / 4 - (y - 1) / 100 + (y - 1) / 400

theorem f160_feb (k : Nat) {y : Int} (h0 : 1970 ≤ y) (h1 : y < 10000) : f160 k y 2 = some (dayD (y + 1) - dayD y - 337) := by
  have t4 : Int.tmod y 400 = y % 400 := Int.tmod_eq_emod_of_nonneg (by omega)
  have t1 : Int.tmod y 4 = y % 4 := Int.tmod_eq_emod_of_nonneg (by omega)
  have t2 : Int.tmod y 100 = y % 100 := Int.tmod_eq_emod_of_nonneg (by omega)
  have hr : (rd [31, 28, 31, 30, 31, 30, 31, 31, 30, 31, 30, 31] (IntKind.wrap .i64 (2 - 1)) : Option Int) = some 28 := by decide +kernel
  unfold f160 dayD
  rw [t4, t1, t2, hr]
  simp only [Option.bind_some, if_true]
  split
  · congr 1; omega
  · split
    · split
      · congr 1; omega
      · congr 1; omega
    · congr 1; omega

theorem f128L0_eq (p1 p2 : Int) : ∀ (n k : Nat) (p0 x y : Int), 1970 ≤ y → y + n = p0 → p0 ≤ 10000 → 0 ≤ x → x ≤ 400 * (y - 1970) → f128L0 (k + n + 1) p0 p1 p2 x y = f128L1 k p0 p1 p2 (x + dayD p0 - dayD y) p0
  | 0, k, p0, x, y, h0, h1, h2, h3, h4 => by
    obtain rfl : y = p0 := by omega
    rw [f128L0, if_neg (by omega)]
    congr 1; omega
  | n + 1, k, p0, x, y, h0, h1, h2, h3, h4 => by
    have hd : dayD (y + 1) - dayD y - 337 ≤ 29 ∧ 28 ≤ dayD (y + 1) - dayD y - 337 := by unfold dayD; omega
    have e : k + (n + 1) + 1 = (k + n + 1) + 1 := by omega
    rw [e, f128L0, if_pos (by omega), f160_feb _ h0 (by omega), Option.bind_some, wr (n := x + 337) (by omega) (by omega), wr (by omega) (by omega), wr (n := y + 1) (by omega) (by omega),
      f128L0_eq p1 p2 n k p0 _ (y + 1) (by omega) (by omega) h2 (by omega) (by omega)]
    congr 1; omega

theorem f128_1 (m : Nat) : f128 (m + 9000) 9999 12 31 = some 253402214400 := by
  unfold f128
  rw [show m + 9000 = (m + 970) + 8029 + 1 from by omega, f128L0_eq 12 31 8029 (m + 970) 9999 0 1970 (by omega) (by omega) (by omega) (by omega) (by omega)]
  kernel_rfl
theorem f128_2 (m : Nat) : f128 (m + 9000) 1950 1 1 = some (-631152000) := by kernel_rfl
theorem f82_0 (m : Nat) : f82 (m + 9000) 0 = some (23, [55, 48, 48, 49, 48, 49, 48, 48, 48, 48, 48, 48, 90], 0) := by
  unfold f82
  rw [f128_2, Option.bind_some, if_neg (by decide), f128_1, Option.bind_some, if_neg (by decide +kernel)]
  kernel_rfl
/-- The empty list. -/
def crl0 : SCrl := SCrl.mk [] 0 0 [] [] (SSig.mk (⟨[0, 0, 0, 0, 0, 0], rfl⟩ : Arr 6) (⟨[0, 0, 0, 0, 0, 0], rfl⟩ : Arr 6))
def tim0 : STlv := STlv.mk 0 23 false [55, 48, 48, 49, 48, 49, 48, 48, 48, 48, 48, 48, 90] []
theorem f40_0 (m : Nat) : f40 (m + 9000) 0 = some (tim0, true) := by
  unfold f40
  rw [f82_0]
  rfl
def lits0 : List Int := [48, 47, 2, 1, 1, 48, 10, 6, 8, 42, 134, 72, 206, 61, 4, 3, 3, 48, 0, 23, 13, 55, 48, 48, 49, 48, 49, 48, 48, 48, 48, 48, 48, 90, 23, 13, 55, 48, 48, 49, 48, 49, 48, 48, 48, 48, 48, 48, 90]
theorem l0 (m : Nat) : f19L0 (m + 9000) crl0 [STlv.mk 0 2 false [1] [], STlv.mk 0 16 true [] [STlv.mk 0 6 false [42, 134, 72, 206, 61, 4, 3, 3] []], STlv.mk 0 16 true [] [], tim0, tim0] [] 0 = some (lits0, 0) := by kernel_rfl
theorem h41 (m : Nat) : f41 (m + 9000) [] = some true := by kernel_rfl
theorem h42 (m : Nat) : f42 (m + 9000) = some (STlv.mk 0 2 false [1] []) := rfl
theorem h43 (m : Nat) : f43 (m + 9000) = some (STlv.mk 0 16 true [] [STlv.mk 0 6 false [42, 134, 72, 206, 61, 4, 3, 3] []]) := by kernel_rfl
theorem h44 (m : Nat) : f44 (m + 9000) [] = some (STlv.mk 0 16 true [] []) := by kernel_rfl
theorem f19_0 (m : Nat) : f19 (m + 9000) crl0 = some (lits0, 0) := by
  unfold f19
  rw [show crl0.This = 0 from rfl, show crl0.Next = 0 from rfl, show crl0.Issuer = [] from rfl, show crl0.Gone = [] from rfl, f40_0, h41, h42, h43, h44]
  exact l0 m
theorem h18 (m : Nat) : f18 (m + 9000) crl0 = some (lits0, Er.nil) := by kernel_rfl
theorem h32 (m : Nat) : f32 (m + 9000) [48, 0] = some (crl0, Er.code 7) := by kernel_rfl
theorem f16_0 (m : Nat) : f16 (m + 9000) = some true := by
  unfold f16
  rw [h32]
  have q := f19_0 m
  have q' := h18 m
  unfold crl0 at q q'
  simp only [Option.bind_some, Er.on, q, q', if_pos]
  rw [beq_self_eq_true]

/-- A serial is the wanted one. -/
def hit (s : List Int) (x : SGone) : Bool := (bytesOf x.Serial).data.toList == (bytesOf s).data.toList

theorem rd_lt {α : Type} (l : List α) (i : Nat) (h : i < l.length) : rd l (i : Int) = some (l[i]) := by
  unfold rd
  rw [if_pos (by omega), Int.toNat_natCast, List.getElem?_eq_getElem h]

theorem f90L0_eq (g : List SGone) (s : List Int) (hg : g.length ≤ 5000000000000) : ∀ (n i k : Nat), i + n = g.length → n < k → ∃ r, f90L0 k g s (i : Int) = some r ∧ decide (r ≥ 0) = (g.drop i).any (hit s)
  | 0, i, k + 1, h, _ => by
    refine ⟨-1, ?_, ?_⟩
    · rw [f90L0, if_neg (by omega)]
    · rw [List.drop_eq_nil_of_le (by omega)]; rfl
  | n + 1, i, k + 1, h, hk => by
    have hi : i < g.length := by omega
    have hd : g.drop i = g[i] :: g.drop (i + 1) := List.drop_eq_getElem_cons hi
    have hf : f49 k g[i] s = some (hit s g[i]) := rfl
    rw [f90L0, if_pos (by omega), rd_lt g i hi, Option.bind_some, hf, Option.bind_some, hd]
    by_cases q : hit s g[i] = true
    · rw [if_pos q]
      exact ⟨i, rfl, by rw [List.any_cons, q, Bool.true_or]; exact decide_eq_true (by omega)⟩
    · rw [if_neg q, wr (by omega) (by omega)]
      obtain ⟨r, hr, hq⟩ := f90L0_eq g s hg n (i + 1) k (by omega) (by omega)
      refine ⟨r, by rw [← hr]; congr 1, ?_⟩
      rw [hq, List.any_cons]
      simp only [Bool.not_eq_true] at q
      rw [q, Bool.false_or]

theorem f20_eq (c : SCrl) (s : List Int) (k : Nat) (hg : c.Gone.length ≤ 5000000000000) (hk : c.Gone.length < k) : f20 k c s = some (c.Gone.any (hit s)) := by
  obtain ⟨r, hr, hq⟩ := f90L0_eq c.Gone s hg c.Gone.length 0 k (by omega) hk
  have h90 : f90 k c.Gone s = some r := hr
  unfold f20 f48
  rw [h90, Option.bind_some, Option.bind_some, hq]
  rfl

theorem f5L0_eq (c : SCrl) (s : List Int) (hg : c.Gone.length * 32 ≤ 140737488351232) : ∀ (n i k : Nat) (b : Bool), i + n = c.Gone.length → n + c.Gone.length + 2 < k → b = (c.Gone.take i).any (hit s) → f5L0 k c s true b (i : Int) = some true
  | 0, i, k + 1, b, h, hk, hb => by
    have hl : ([] ++ c.Gone).length = c.Gone.length := by simp
    have h1 : ap 32 [] c.Gone = some c.Gone := by
      unfold ap; rw [List.nil_append, if_pos ⟨by omega, by omega⟩]
    have h2 : ap 32 c.Gone [SGone.mk s 0] = some (c.Gone ++ [SGone.mk s 0]) := by
      unfold ap; rw [if_pos]; rw [List.length_append, List.length_singleton]; omega
    have hb' : b = c.Gone.any (hit s) := by rw [hb, List.take_of_length_le (by omega)]
    rw [f5L0, if_neg (by omega), h1, Option.bind_some, h2, Option.bind_some, if_pos rfl, f20_eq c s k (by omega) (by omega), Option.bind_some, if_pos hb'.symm, f20_eq _ s k (by simp; omega) (by simp; omega)]
    simp [hit]
  | n + 1, i, k + 1, b, h, hk, hb => by
    have hi : i < c.Gone.length := by omega
    have ht : c.Gone.take (i + 1) = c.Gone.take i ++ [c.Gone[i]] := List.take_succ_eq_append_getElem hi
    have hw : IntKind.wrap .i64 ((i : Int) + 1) = ((i + 1 : Nat) : Int) := by rw [wr (by omega) (by omega)]; omega
    rw [f5L0, if_pos (by omega)]
    by_cases q : b = true
    · rw [if_pos q, hw]
      exact f5L0_eq c s hg n (i + 1) k true (by omega) (by omega) (by rw [ht, List.any_append, ← hb, q, Bool.true_or])
    · rw [if_neg q, rd_lt _ i hi, Option.bind_some, hw]
      simp only [Bool.not_eq_true] at q
      exact f5L0_eq c s hg n (i + 1) k _ (by omega) (by omega) (by rw [ht, List.any_append, ← hb, q, Bool.false_or, List.any_cons, List.any_nil, Bool.or_false]; rfl)

theorem lawCrlHas (a0 : SCrl) (a1 : List Int) (h : a0.Gone.length * 32 ≤ 140737488351232) : ∃ k, f5 k a0 a1 = some true := by
  refine ⟨(2 * a0.Gone.length + 10) + 9000, ?_⟩
  unfold f5
  rw [f16_0, Option.bind_some]
  exact f5L0_eq a0 a1 h a0.Gone.length 0 _ false (by omega) (by omega) (by rw [List.take_zero]; rfl)
end Go.Proofs.Tryd.E
end
