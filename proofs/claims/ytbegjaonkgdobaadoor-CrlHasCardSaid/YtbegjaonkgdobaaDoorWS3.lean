/- What the functions compute, as plain models, and the walks that show it. -/
import Derived.Test.YtbegjaonkgdobaaDoorWS2
set_option linter.unusedVariables false
set_option linter.unusedSimpArgs false
set_option linter.unusedSectionVars false
section
namespace Go.Proofs.Tryd.E
open Go Go.Eng
set_option maxRecDepth 100000
set_option linter.unusedVariables false
def f86 (k : Nat) (p0 : (List Int)) : Option ((List Int) × Int) :=
  f86L0 k p0 0

theorem f86_ok (k : Nat) : ∀ (p0 : (List Int)) (r : (List Int) × Int), f86 k p0 = some r → Ct.Ok PX 86 ⟨[(.im (.sl 1 (p0.map (eI .u8))))], [], 0, (.tup [(.im (.sl 1 (r.1.map (eI .u8)))), (.im (eI .i64 r.2))]), [], 0⟩ := by
  intro p0 r h
  unfold f86 at h
  exact Ct.ofWalk hT hm F86 (by kernel_rfl) (n := 1000) (ds := [.r [], .r [], .k ⟨[], [], [], [0, 4], [], 0, [], []⟩])
    (r := (.head cc86_0 [.blk 0, .seq cc86_1] (f86L0_S p0 0))) (obs := [])
    (by kernel_rfl) trivial (fun fn hfn => f86L0_ok fn hfn k p0 0 _ h)

def f45 (k : Nat) (p0 : (List Int)) : Option (STlv × Bool) :=
  if (p0.length : Int) < 1 then (
   some ((STlv.mk 0 0 false [] []), false))
  else (
   if (p0.length : Int) > 20 then (
    some ((STlv.mk 0 0 false [] []), false))
   else (
    (rd p0 0).bind fun v1 =>
    if v1 = 0 then (
     some ((STlv.mk 0 0 false [] []), false))
    else (
     (f86 k p0).bind fun v2 =>
     some ((STlv.mk 0 2 false v2.1 []), true))))

theorem f45_ok (k : Nat) : ∀ (p0 : (List Int)) (r : STlv × Bool), f45 k p0 = some r → Ct.Ok PX 45 ⟨[(.im (.sl 1 (p0.map (eI .u8))))], [], 0, (.tup [(.im (.st [(1, (eI .i64 r.1.Class)), (1, (eI .i64 r.1.Tag)), (1, (eB r.1.Made)), (1, (.sl 1 (r.1.Body.map (eI .u8)))), (1, (.sl 5 (r.1.Kids.map eSTlv)))])), (.im (eB r.2))]), [], 0⟩ := by
  intro p0 r h
  unfold f45 at h
  by_cases h1 : (p0.length : Int) < 1
  · rw [if_pos h1] at h
    replace h := Option.some.inj h; subst h
    exact Ct.ofWalk hT hm F45 (by kernel_rfl) (n := 1000) (ds := [.r [], .r [(1, ⟨(.h (.int (p0.length : Int))), [], []⟩), (4, ⟨(.h .gf), [], []⟩), (5, ⟨(.h .gf), [], []⟩), (6, ⟨(.h .gf), [], []⟩), (7, ⟨(.h (.gt .no)), [], []⟩)], .bc true, .r [], .k ⟨[], [], [], [], [], 0, [(0, (.s [(.s [.k, .k, .k, (.n 1), (.n 5)])]))], []⟩])
      (r := (.fin (.tup [(.im (.st [(1, (eI .i64 0)), (1, (eI .i64 0)), (1, (eB false)), (1, (.sl 1 [])), (1, (.sl 5 []))])), (.im (eB false))]) [] 0)) (obs := [((p0.map (eI .u8)).length : Int) = (p0.length : Int), (decide ((p0.length : Int) < 1)) = !false, (decide ((p0.length : Int) < 1)) = !false, (decide ((p0.length : Int) < 1)) = !false, (decide ((p0.length : Int) < 1)) = true])
      (by kernel_rfl) ⟨(len_m (eI .u8) _), (dt h1), (dt h1), (dt h1), (dt h1), trivial⟩ (fun fn hfn => ⟨rfl, rfl, rfl⟩)
  · rw [if_neg h1] at h
    by_cases h2 : (p0.length : Int) > 20
    · rw [if_pos h2] at h
      replace h := Option.some.inj h; subst h
      exact Ct.ofWalk hT hm F45 (by kernel_rfl) (n := 1000) (ds := [.r [], .r [(1, ⟨(.h (.int (p0.length : Int))), [], []⟩), (4, ⟨(.h (.gt .no)), [], []⟩), (5, ⟨(.h (.gt (.int (p0.length : Int)))), [], []⟩), (6, ⟨(.h (.gt .no)), [], []⟩), (7, ⟨(.h .gf), [], []⟩), (9, ⟨(.h .gf), [], []⟩), (10, ⟨(.h .gf), [], []⟩), (11, ⟨(.h .gf), [], []⟩), (12, ⟨(.h .gf), [], []⟩), (13, ⟨(.h (.gt .no)), [], []⟩)], .bc true, .r [], .k ⟨[], [], [], [], [], 0, [(0, (.s [(.s [.k, .k, .k, (.n 1), (.n 5)])]))], []⟩])
        (r := (.fin (.tup [(.im (.st [(1, (eI .i64 0)), (1, (eI .i64 0)), (1, (eB false)), (1, (.sl 1 [])), (1, (.sl 5 []))])), (.im (eB false))]) [] 0)) (obs := [((p0.map (eI .u8)).length : Int) = (p0.length : Int), (decide ((p0.length : Int) < 1)) = false, (decide ((p0.length : Int) < 1)) = false, ((p0.map (eI .u8)).length : Int) = (p0.length : Int), (decide ((p0.length : Int) < 1)) = false, (decide ((p0.length : Int) < 1)) = false, (decide ((p0.length : Int) > 20)) = !false, (decide ((p0.length : Int) > 20)) = !false, (decide ((p0.length : Int) > 20)) = !false, (decide ((p0.length : Int) > 20)) = !false, (decide ((p0.length : Int) > 20)) = true])
        (by kernel_rfl) ⟨(len_m (eI .u8) _), (df h1), (df h1), (len_m (eI .u8) _), (df h1), (df h1), (dt h2), (dt h2), (dt h2), (dt h2), (dt h2), trivial⟩ (fun fn hfn => ⟨rfl, rfl, rfl⟩)
    · rw [if_neg h2] at h
      obtain ⟨v1, h3, h⟩ := bnd h
      by_cases h4 : v1 = 0
      · rw [if_pos h4] at h
        replace h := Option.some.inj h; subst h
        exact Ct.ofWalk hT hm F45 (by kernel_rfl) (n := 1000) (ds := [.r [], .r [(1, ⟨(.h (.int (p0.length : Int))), [], []⟩), (4, ⟨(.h (.gt .no)), [], []⟩), (5, ⟨(.h (.gt (.int (p0.length : Int)))), [], []⟩), (6, ⟨(.h (.gt .no)), [], []⟩), (7, ⟨(.h .gf), [], []⟩), (9, ⟨(.h (.gt .no)), [], []⟩), (10, ⟨(.h (.gt (.iv (eI .u8 v1)))), [], []⟩), (11, ⟨(.h (.gt .no)), [], []⟩), (12, ⟨(.h (.gt .no)), [], []⟩), (13, ⟨(.h .gf), [], []⟩)], .b true, .r [], .k ⟨[], [], [], [], [], 0, [(0, (.s [(.s [.k, .k, .k, (.n 1), (.n 5)])]))], []⟩])
          (r := (.fin (.tup [(.im (.st [(1, (eI .i64 0)), (1, (eI .i64 0)), (1, (eB false)), (1, (.sl 1 [])), (1, (.sl 5 []))])), (.im (eB false))]) [] 0)) (obs := [((p0.map (eI .u8)).length : Int) = (p0.length : Int), (decide ((p0.length : Int) < 1)) = false, (decide ((p0.length : Int) < 1)) = false, ((p0.map (eI .u8)).length : Int) = (p0.length : Int), (decide ((p0.length : Int) < 1)) = false, (decide ((p0.length : Int) < 1)) = false, (decide ((p0.length : Int) > 20)) = false, (decide ((p0.length : Int) > 20)) = false, 0 ≤ 0, (p0.map (eI .u8))[0]? = some (eI .u8 v1), (decide ((p0.length : Int) > 20)) = false, (decide ((p0.length : Int) > 20)) = false, (decide ((p0.length : Int) > 20)) = false, (v1 == 0) = true])
          (by kernel_rfl) ⟨(len_m (eI .u8) _), (df h1), (df h1), (len_m (eI .u8) _), (df h1), (df h1), (df h2), (df h2), (rd_nn h3), (rd_map (eI .u8) h3), (df h2), (df h2), (df h2), (bt h4), trivial⟩ (fun fn hfn => ⟨rfl, rfl, rfl⟩)
      · rw [if_neg h4] at h
        obtain ⟨v2, h5, h⟩ := bnd h
        replace h := Option.some.inj h; subst h
        exact Ct.ofWalk hT hm F45 (by kernel_rfl) (n := 1000) (ds := [.r [], .r [(1, ⟨(.h (.int (p0.length : Int))), [], []⟩), (4, ⟨(.h (.gt .no)), [], []⟩), (5, ⟨(.h (.gt (.int (p0.length : Int)))), [], []⟩), (6, ⟨(.h (.gt .no)), [], []⟩), (7, ⟨(.h .gf), [], []⟩), (9, ⟨(.h (.gt .no)), [], []⟩), (10, ⟨(.h (.gt (.iv (eI .u8 v1)))), [], []⟩), (11, ⟨(.h (.gt .no)), [], []⟩), (12, ⟨(.h (.gt .no)), [], []⟩), (13, ⟨(.h .gf), [], []⟩)], .b false, .r [(1, ⟨(.c false [] ⟨[], [], [], 0, (.tup [(.im (.sl 1 (v2.1.map (eI .u8)))), (.im (eI .i64 v2.2))]), [], 0, [], 1⟩), [], []⟩)], .r [], .k ⟨[], [], [], [], [], 0, [(0, (.s [(.s [.k, .k, .k, .k, (.n 5)])]))], []⟩])
          (r := (.fin (.tup [(.im (.st [(1, (eI .i64 0)), (1, (eI .i64 2)), (1, (eB false)), (1, (.sl 1 (v2.1.map (eI .u8)))), (1, (.sl 5 []))])), (.im (eB true))]) [] 0)) (obs := [((p0.map (eI .u8)).length : Int) = (p0.length : Int), (decide ((p0.length : Int) < 1)) = false, (decide ((p0.length : Int) < 1)) = false, ((p0.map (eI .u8)).length : Int) = (p0.length : Int), (decide ((p0.length : Int) < 1)) = false, (decide ((p0.length : Int) < 1)) = false, (decide ((p0.length : Int) > 20)) = false, (decide ((p0.length : Int) > 20)) = false, 0 ≤ 0, (p0.map (eI .u8))[0]? = some (eI .u8 v1), (decide ((p0.length : Int) > 20)) = false, (decide ((p0.length : Int) > 20)) = false, (decide ((p0.length : Int) > 20)) = false, (v1 == 0) = false, Ct.Ok PX 86 ⟨[(.im (.sl 1 (p0.map (eI .u8))))], [], 0, (.tup [(.im (.sl 1 (v2.1.map (eI .u8)))), (.im (eI .i64 v2.2))]), [], 0⟩])
          (by kernel_rfl) ⟨(len_m (eI .u8) _), (df h1), (df h1), (len_m (eI .u8) _), (df h1), (df h1), (df h2), (df h2), (rd_nn h3), (rd_map (eI .u8) h3), (df h2), (df h2), (df h2), (bf h4), (f86_ok k p0 v2 h5), trivial⟩ (fun fn hfn => ⟨rfl, rfl, rfl⟩)

def f46 (k : Nat) (p0 : (List STlv)) : Option (Int × Int × Bool × (List STlv)) :=
  some (0, 16, true, p0)

theorem f46_ok (k : Nat) : ∀ (p0 : (List STlv)) (r : Int × Int × Bool × (List STlv)), f46 k p0 = some r → Ct.Ok PX 46 ⟨[(.ownF 5 0)], [(0, (.row 35 5 (p0.map eSTlv) 0))], 1, (.st [(1, (.im (eI .i64 r.1))), (1, (.im (eI .i64 r.2.1))), (1, (.im (eB r.2.2.1))), (1, (.im (.v (.slice none 0 0)))), (1, (.ownF 5 1))]), [(1, (.row 35 5 (r.2.2.2.map eSTlv) 0))], 2⟩ := by
  intro p0 r h
  unfold f46 at h
  replace h := Option.some.inj h; subst h
  exact Ct.ofWalk hT hm F46 (by kernel_rfl) (n := 1000) (ds := [.r [], .r [], .k ⟨[], [], [], [], [(1, 0)], 2, [], []⟩])
    (r := (.fin (.st [(1, (.im (eI .i64 0))), (1, (.im (eI .i64 16))), (1, (.im (eB true))), (1, (.im (.v (.slice none 0 0)))), (1, (.ownF 5 1))]) [(1, (.row 35 5 (p0.map eSTlv) 0))] 2)) (obs := [])
    (by kernel_rfl) trivial (fun fn hfn => ⟨rfl, rfl, rfl⟩)
end Go.Proofs.Tryd.E
end

section
namespace Go.Proofs.Tryd.E
open Go Go.Eng
set_option maxRecDepth 100000
set_option linter.unusedVariables false
def f87L0_S (p0 : STlv) (x0 : Int) : S := ⟨[(1, (.ref 0 [])), (3, (.im (eI .i64 x0)))], [(0, (.box false 5 (.im (.st [(1, (eI .i64 p0.Class)), (1, (eI .i64 p0.Tag)), (1, (eB p0.Made)), (1, (.sl 1 (p0.Body.map (eI .u8)))), (1, (.sl 5 (p0.Kids.map eSTlv)))]))))], 1⟩

mutual
def f87 : Nat → STlv → Option (Bool)
  | 0, _ => none
  | k + 1, p0 =>
    if p0.Class < 0 then (
     some false)
    else (
     if p0.Class > 3 then (
      some false)
     else (
      if p0.Tag < 0 then (
       some false)
      else (
       if p0.Tag > 30 then (
        some false)
       else (
        if p0.Made = true then (
         if (p0.Body.length : Int) > 0 then (
          some false)
         else (
          f87L0 k p0 0))
        else (
         if (p0.Kids.length : Int) > 0 then (
          some false)
         else (
          f87L0 k p0 0))))))
def f87L0 : Nat → STlv → Int → Option (Bool)
  | 0, _, _ => none
  | k + 1, p0, x0 =>
    if x0 < (p0.Kids.length : Int) then (
     (rd p0.Kids x0).bind fun v1 =>
     (f87 k v1).bind fun v2 =>
     if v2 = true then (
      f87L0 k p0 (IntKind.wrap .i64 (x0 + 1)))
     else (
      some false))
    else (
     some true)
end

def f87_P (k : Nat) : Prop := ∀ (p0 : STlv) (r : Bool), f87 k p0 = some r → Ct.Ok PX 87 ⟨[(.im (.st [(1, (eI .i64 p0.Class)), (1, (eI .i64 p0.Tag)), (1, (eB p0.Made)), (1, (.sl 1 (p0.Body.map (eI .u8)))), (1, (.sl 5 (p0.Kids.map eSTlv)))]))], [], 0, (.im (eB r)), [], 0⟩

def f87L0_P (k : Nat) : Prop := ∀ (fn : Func) (_ : fn.results = ([.t 2].map Rv.var).toArray), ∀ (p0 : STlv) (x0 : Int) (r : Bool), f87L0 k p0 x0 = some r → LH PX ⟨fn, 57, 0, (.im (eB r)), [], 0⟩ cc87_0 [.blk 0, .seq cc87_1] (f87L0_S p0 x0)

theorem f87_step (k : Nat) (ih_f87 : f87_P k) (ih_f87L0 : f87L0_P k) : f87_P (k + 1) := by
  intro p0 r h
  rw [f87] at h
  by_cases h1 : p0.Class < 0
  · rw [if_pos h1] at h
    replace h := Option.some.inj h; subst h
    exact Ct.ofWalk hT hm F87 (by kernel_rfl) (n := 1000) (ds := [.r [], .r [(4, ⟨(.h .gf), [], []⟩), (5, ⟨(.h .gf), [], []⟩), (6, ⟨(.h .gf), [], []⟩), (7, ⟨(.h (.gt .no)), [], []⟩)], .bc true, .r [], .k ⟨[], [], [], [], [], 0, [], []⟩])
      (r := (.fin (.im (eB false)) [] 0)) (obs := [(decide (p0.Class < 0)) = !false, (decide (p0.Class < 0)) = !false, (decide (p0.Class < 0)) = !false, (decide (p0.Class < 0)) = true])
      (by kernel_rfl) ⟨(dt h1), (dt h1), (dt h1), (dt h1), trivial⟩ (fun fn hfn => ⟨rfl, rfl, rfl⟩)
  · rw [if_neg h1] at h
    by_cases h2 : p0.Class > 3
    · rw [if_pos h2] at h
      replace h := Option.some.inj h; subst h
      exact Ct.ofWalk hT hm F87 (by kernel_rfl) (n := 1000) (ds := [.r [], .r [(4, ⟨(.h (.gt .no)), [], []⟩), (5, ⟨(.h (.gt .no)), [], []⟩), (6, ⟨(.h (.gt .no)), [], []⟩), (7, ⟨(.h .gf), [], []⟩), (9, ⟨(.h .gf), [], []⟩), (10, ⟨(.h .gf), [], []⟩), (11, ⟨(.h .gf), [], []⟩), (12, ⟨(.h (.gt .no)), [], []⟩)], .bc true, .r [], .k ⟨[], [], [], [], [], 0, [], []⟩])
        (r := (.fin (.im (eB false)) [] 0)) (obs := [(decide (p0.Class < 0)) = false, (decide (p0.Class < 0)) = false, (decide (p0.Class < 0)) = false, (decide (p0.Class < 0)) = false, (decide (p0.Class > 3)) = !false, (decide (p0.Class > 3)) = !false, (decide (p0.Class > 3)) = !false, (decide (p0.Class > 3)) = true])
        (by kernel_rfl) ⟨(df h1), (df h1), (df h1), (df h1), (dt h2), (dt h2), (dt h2), (dt h2), trivial⟩ (fun fn hfn => ⟨rfl, rfl, rfl⟩)
    · rw [if_neg h2] at h
      by_cases h3 : p0.Tag < 0
      · rw [if_pos h3] at h
        replace h := Option.some.inj h; subst h
        exact Ct.ofWalk hT hm F87 (by kernel_rfl) (n := 1000) (ds := [.r [], .r [(4, ⟨(.h (.gt .no)), [], []⟩), (5, ⟨(.h (.gt .no)), [], []⟩), (6, ⟨(.h (.gt .no)), [], []⟩), (7, ⟨(.h .gf), [], []⟩), (9, ⟨(.h (.gt .no)), [], []⟩), (10, ⟨(.h (.gt .no)), [], []⟩), (11, ⟨(.h (.gt .no)), [], []⟩), (12, ⟨(.h .gf), [], []⟩), (14, ⟨(.h .gf), [], []⟩), (15, ⟨(.h .gf), [], []⟩), (16, ⟨(.h .gf), [], []⟩), (17, ⟨(.h (.gt .no)), [], []⟩)], .bc true, .r [], .k ⟨[], [], [], [], [], 0, [], []⟩])
          (r := (.fin (.im (eB false)) [] 0)) (obs := [(decide (p0.Class < 0)) = false, (decide (p0.Class < 0)) = false, (decide (p0.Class < 0)) = false, (decide (p0.Class < 0)) = false, (decide (p0.Class > 3)) = false, (decide (p0.Class > 3)) = false, (decide (p0.Class > 3)) = false, (decide (p0.Class > 3)) = false, (decide (p0.Tag < 0)) = !false, (decide (p0.Tag < 0)) = !false, (decide (p0.Tag < 0)) = !false, (decide (p0.Tag < 0)) = true])
          (by kernel_rfl) ⟨(df h1), (df h1), (df h1), (df h1), (df h2), (df h2), (df h2), (df h2), (dt h3), (dt h3), (dt h3), (dt h3), trivial⟩ (fun fn hfn => ⟨rfl, rfl, rfl⟩)
      · rw [if_neg h3] at h
        by_cases h4 : p0.Tag > 30
        · rw [if_pos h4] at h
          replace h := Option.some.inj h; subst h
          exact Ct.ofWalk hT hm F87 (by kernel_rfl) (n := 1000) (ds := [.r [], .r [(4, ⟨(.h (.gt .no)), [], []⟩), (5, ⟨(.h (.gt .no)), [], []⟩), (6, ⟨(.h (.gt .no)), [], []⟩), (7, ⟨(.h .gf), [], []⟩), (9, ⟨(.h (.gt .no)), [], []⟩), (10, ⟨(.h (.gt .no)), [], []⟩), (11, ⟨(.h (.gt .no)), [], []⟩), (12, ⟨(.h .gf), [], []⟩), (14, ⟨(.h (.gt .no)), [], []⟩), (15, ⟨(.h (.gt .no)), [], []⟩), (16, ⟨(.h (.gt .no)), [], []⟩), (17, ⟨(.h .gf), [], []⟩)], .b true, .r [], .k ⟨[], [], [], [], [], 0, [], []⟩])
            (r := (.fin (.im (eB false)) [] 0)) (obs := [(decide (p0.Class < 0)) = false, (decide (p0.Class < 0)) = false, (decide (p0.Class < 0)) = false, (decide (p0.Class < 0)) = false, (decide (p0.Class > 3)) = false, (decide (p0.Class > 3)) = false, (decide (p0.Class > 3)) = false, (decide (p0.Class > 3)) = false, (decide (p0.Tag < 0)) = false, (decide (p0.Tag < 0)) = false, (decide (p0.Tag < 0)) = false, (decide (p0.Tag < 0)) = false, (decide (p0.Tag > 30)) = true])
            (by kernel_rfl) ⟨(df h1), (df h1), (df h1), (df h1), (df h2), (df h2), (df h2), (df h2), (df h3), (df h3), (df h3), (df h3), (dt h4), trivial⟩ (fun fn hfn => ⟨rfl, rfl, rfl⟩)
        · rw [if_neg h4] at h
          by_cases h5 : p0.Made = true
          · rw [if_pos h5] at h
            by_cases h6 : (p0.Body.length : Int) > 0
            · rw [if_pos h6] at h
              replace h := Option.some.inj h; subst h
              exact Ct.ofWalk hT hm F87 (by kernel_rfl) (n := 1000) (ds := [.r [], .r [(4, ⟨(.h (.gt .no)), [], []⟩), (5, ⟨(.h (.gt .no)), [], []⟩), (6, ⟨(.h (.gt .no)), [], []⟩), (7, ⟨(.h .gf), [], []⟩), (9, ⟨(.h (.gt .no)), [], []⟩), (10, ⟨(.h (.gt .no)), [], []⟩), (11, ⟨(.h (.gt .no)), [], []⟩), (12, ⟨(.h .gf), [], []⟩), (14, ⟨(.h (.gt .no)), [], []⟩), (15, ⟨(.h (.gt .no)), [], []⟩), (16, ⟨(.h (.gt .no)), [], []⟩), (17, ⟨(.h .gf), [], []⟩)], .b false, .r [(3, ⟨(.h (.gt .no)), [], []⟩), (4, ⟨(.h (.gt .no)), [], []⟩), (5, ⟨(.h (.gt (.int (p0.Body.length : Int)))), [], []⟩), (6, ⟨(.h (.gt .no)), [], []⟩), (7, ⟨(.h (.gt .no)), [], []⟩), (9, ⟨(.h .gf), [], []⟩), (10, ⟨(.h .gf), [], []⟩), (11, ⟨(.h .gf), [], []⟩), (12, ⟨(.h .gf), [], []⟩), (17, ⟨(.h .gf), [], []⟩), (18, ⟨(.h (.gt .no)), [], []⟩)], .bc true, .r [], .k ⟨[], [], [], [], [], 0, [], []⟩])
                (r := (.fin (.im (eB false)) [] 0)) (obs := [(decide (p0.Class < 0)) = false, (decide (p0.Class < 0)) = false, (decide (p0.Class < 0)) = false, (decide (p0.Class < 0)) = false, (decide (p0.Class > 3)) = false, (decide (p0.Class > 3)) = false, (decide (p0.Class > 3)) = false, (decide (p0.Class > 3)) = false, (decide (p0.Tag < 0)) = false, (decide (p0.Tag < 0)) = false, (decide (p0.Tag < 0)) = false, (decide (p0.Tag < 0)) = false, (decide (p0.Tag > 30)) = false, p0.Made = true, p0.Made = true, p0.Made = true, ((p0.Body.map (eI .u8)).length : Int) = (p0.Body.length : Int), p0.Made = true, p0.Made = true, (decide ((p0.Body.length : Int) > 0)) = !false, (decide ((p0.Body.length : Int) > 0)) = !false, (decide ((p0.Body.length : Int) > 0)) = !false, (decide ((p0.Body.length : Int) > 0)) = !false, (decide ((p0.Body.length : Int) > 0)) = !false, (decide ((p0.Body.length : Int) > 0)) = true])
                (by kernel_rfl) ⟨(df h1), (df h1), (df h1), (df h1), (df h2), (df h2), (df h2), (df h2), (df h3), (df h3), (df h3), (df h3), (df h4), h5, h5, h5, (len_m (eI .u8) _), h5, h5, (dt h6), (dt h6), (dt h6), (dt h6), (dt h6), (dt h6), trivial⟩ (fun fn hfn => ⟨rfl, rfl, rfl⟩)
            · rw [if_neg h6] at h
              exact Ct.ofWalk hT hm F87 (by kernel_rfl) (n := 1000) (ds := [.r [], .r [(4, ⟨(.h (.gt .no)), [], []⟩), (5, ⟨(.h (.gt .no)), [], []⟩), (6, ⟨(.h (.gt .no)), [], []⟩), (7, ⟨(.h .gf), [], []⟩), (9, ⟨(.h (.gt .no)), [], []⟩), (10, ⟨(.h (.gt .no)), [], []⟩), (11, ⟨(.h (.gt .no)), [], []⟩), (12, ⟨(.h .gf), [], []⟩), (14, ⟨(.h (.gt .no)), [], []⟩), (15, ⟨(.h (.gt .no)), [], []⟩), (16, ⟨(.h (.gt .no)), [], []⟩), (17, ⟨(.h .gf), [], []⟩)], .b false, .r [(3, ⟨(.h (.gt .no)), [], []⟩), (4, ⟨(.h (.gt .no)), [], []⟩), (5, ⟨(.h (.gt (.int (p0.Body.length : Int)))), [], []⟩), (6, ⟨(.h (.gt .no)), [], []⟩), (7, ⟨(.h (.gt .no)), [], []⟩), (9, ⟨(.h (.gt .no)), [], []⟩), (10, ⟨(.h (.gt .no)), [], []⟩), (11, ⟨(.h (.gt .no)), [], []⟩), (12, ⟨(.h (.gt .no)), [], []⟩), (13, ⟨(.h .gf), [], []⟩), (14, ⟨(.h .gf), [], []⟩), (15, ⟨(.h .gf), [], []⟩), (16, ⟨(.h .gf), [], []⟩), (17, ⟨(.h (.gt .gf)), [], []⟩), (18, ⟨(.h .gf), [], []⟩)], .bc false, .r [], .k ⟨[], [], [], [1, 3], [(0, 0)], 1, [], []⟩])
                (r := (.head cc87_0 [.blk 0, .seq cc87_1] (f87L0_S p0 0))) (obs := [(decide (p0.Class < 0)) = false, (decide (p0.Class < 0)) = false, (decide (p0.Class < 0)) = false, (decide (p0.Class < 0)) = false, (decide (p0.Class > 3)) = false, (decide (p0.Class > 3)) = false, (decide (p0.Class > 3)) = false, (decide (p0.Class > 3)) = false, (decide (p0.Tag < 0)) = false, (decide (p0.Tag < 0)) = false, (decide (p0.Tag < 0)) = false, (decide (p0.Tag < 0)) = false, (decide (p0.Tag > 30)) = false, p0.Made = true, p0.Made = true, p0.Made = true, ((p0.Body.map (eI .u8)).length : Int) = (p0.Body.length : Int), p0.Made = true, p0.Made = true, (decide ((p0.Body.length : Int) > 0)) = false, (decide ((p0.Body.length : Int) > 0)) = false, (decide ((p0.Body.length : Int) > 0)) = false, (decide ((p0.Body.length : Int) > 0)) = false, (!p0.Made) = !true, (!p0.Made) = !true, (!p0.Made) = !true, (!p0.Made) = !true, (decide ((p0.Body.length : Int) > 0)) = false, (!p0.Made) = false, (decide ((p0.Body.length : Int) > 0)) = false])
                (by kernel_rfl) ⟨(df h1), (df h1), (df h1), (df h1), (df h2), (df h2), (df h2), (df h2), (df h3), (df h3), (df h3), (df h3), (df h4), h5, h5, h5, (len_m (eI .u8) _), h5, h5, (df h6), (df h6), (df h6), (df h6), (not_f h5), (not_f h5), (not_f h5), (not_f h5), (df h6), (not_f h5), (df h6), trivial⟩ (fun fn hfn => ih_f87L0 fn hfn p0 0 _ h)
          · rw [if_neg h5] at h
            by_cases h6 : (p0.Kids.length : Int) > 0
            · rw [if_pos h6] at h
              replace h := Option.some.inj h; subst h
              exact Ct.ofWalk hT hm F87 (by kernel_rfl) (n := 1000) (ds := [.r [], .r [(4, ⟨(.h (.gt .no)), [], []⟩), (5, ⟨(.h (.gt .no)), [], []⟩), (6, ⟨(.h (.gt .no)), [], []⟩), (7, ⟨(.h .gf), [], []⟩), (9, ⟨(.h (.gt .no)), [], []⟩), (10, ⟨(.h (.gt .no)), [], []⟩), (11, ⟨(.h (.gt .no)), [], []⟩), (12, ⟨(.h .gf), [], []⟩), (14, ⟨(.h (.gt .no)), [], []⟩), (15, ⟨(.h (.gt .no)), [], []⟩), (16, ⟨(.h (.gt .no)), [], []⟩), (17, ⟨(.h .gf), [], []⟩)], .b false, .r [(3, ⟨(.h .gf), [], []⟩), (4, ⟨(.h .gf), [], []⟩), (5, ⟨(.h .gf), [], []⟩), (6, ⟨(.h .gf), [], []⟩), (7, ⟨(.h .gf), [], []⟩), (13, ⟨(.h (.gt .no)), [], []⟩), (14, ⟨(.h (.gt .no)), [], []⟩), (15, ⟨(.h (.gt (.int (p0.Kids.length : Int)))), [], []⟩), (16, ⟨(.h (.gt .no)), [], []⟩), (17, ⟨(.h (.gt (.gt .no))), [], []⟩)], .b true, .r [], .k ⟨[], [], [], [], [], 0, [], []⟩])
                (r := (.fin (.im (eB false)) [] 0)) (obs := [(decide (p0.Class < 0)) = false, (decide (p0.Class < 0)) = false, (decide (p0.Class < 0)) = false, (decide (p0.Class < 0)) = false, (decide (p0.Class > 3)) = false, (decide (p0.Class > 3)) = false, (decide (p0.Class > 3)) = false, (decide (p0.Class > 3)) = false, (decide (p0.Tag < 0)) = false, (decide (p0.Tag < 0)) = false, (decide (p0.Tag < 0)) = false, (decide (p0.Tag < 0)) = false, (decide (p0.Tag > 30)) = false, p0.Made = !true, p0.Made = !true, p0.Made = !true, p0.Made = !true, p0.Made = false, (!p0.Made) = true, (!p0.Made) = true, (!p0.Made) = true, ((p0.Kids.map eSTlv).length : Int) = (p0.Kids.length : Int), (!p0.Made) = true, false = false, (!p0.Made) = true, (decide ((p0.Kids.length : Int) > 0)) = true])
                (by kernel_rfl) ⟨(df h1), (df h1), (df h1), (df h1), (df h2), (df h2), (df h2), (df h2), (df h3), (df h3), (df h3), (df h3), (df h4), (vf h5), (vf h5), (vf h5), (vf h5), (vf h5), (not_t (vf h5)), (not_t (vf h5)), (not_t (vf h5)), (len_m eSTlv _), (not_t (vf h5)), rfl, (not_t (vf h5)), (dt h6), trivial⟩ (fun fn hfn => ⟨rfl, rfl, rfl⟩)
            · rw [if_neg h6] at h
              exact Ct.ofWalk hT hm F87 (by kernel_rfl) (n := 1000) (ds := [.r [], .r [(4, ⟨(.h (.gt .no)), [], []⟩), (5, ⟨(.h (.gt .no)), [], []⟩), (6, ⟨(.h (.gt .no)), [], []⟩), (7, ⟨(.h .gf), [], []⟩), (9, ⟨(.h (.gt .no)), [], []⟩), (10, ⟨(.h (.gt .no)), [], []⟩), (11, ⟨(.h (.gt .no)), [], []⟩), (12, ⟨(.h .gf), [], []⟩), (14, ⟨(.h (.gt .no)), [], []⟩), (15, ⟨(.h (.gt .no)), [], []⟩), (16, ⟨(.h (.gt .no)), [], []⟩), (17, ⟨(.h .gf), [], []⟩)], .b false, .r [(3, ⟨(.h .gf), [], []⟩), (4, ⟨(.h .gf), [], []⟩), (5, ⟨(.h .gf), [], []⟩), (6, ⟨(.h .gf), [], []⟩), (7, ⟨(.h .gf), [], []⟩), (13, ⟨(.h (.gt .no)), [], []⟩), (14, ⟨(.h (.gt .no)), [], []⟩), (15, ⟨(.h (.gt (.int (p0.Kids.length : Int)))), [], []⟩), (16, ⟨(.h (.gt .no)), [], []⟩), (17, ⟨(.h (.gt (.gt .no))), [], []⟩)], .b false, .r [], .k ⟨[], [], [], [1, 3], [(0, 0)], 1, [], []⟩])
                (r := (.head cc87_0 [.blk 0, .seq cc87_1] (f87L0_S p0 0))) (obs := [(decide (p0.Class < 0)) = false, (decide (p0.Class < 0)) = false, (decide (p0.Class < 0)) = false, (decide (p0.Class < 0)) = false, (decide (p0.Class > 3)) = false, (decide (p0.Class > 3)) = false, (decide (p0.Class > 3)) = false, (decide (p0.Class > 3)) = false, (decide (p0.Tag < 0)) = false, (decide (p0.Tag < 0)) = false, (decide (p0.Tag < 0)) = false, (decide (p0.Tag < 0)) = false, (decide (p0.Tag > 30)) = false, p0.Made = !true, p0.Made = !true, p0.Made = !true, p0.Made = !true, p0.Made = false, (!p0.Made) = true, (!p0.Made) = true, (!p0.Made) = true, ((p0.Kids.map eSTlv).length : Int) = (p0.Kids.length : Int), (!p0.Made) = true, false = false, (!p0.Made) = true, (decide ((p0.Kids.length : Int) > 0)) = false])
                (by kernel_rfl) ⟨(df h1), (df h1), (df h1), (df h1), (df h2), (df h2), (df h2), (df h2), (df h3), (df h3), (df h3), (df h3), (df h4), (vf h5), (vf h5), (vf h5), (vf h5), (vf h5), (not_t (vf h5)), (not_t (vf h5)), (not_t (vf h5)), (len_m eSTlv _), (not_t (vf h5)), rfl, (not_t (vf h5)), (df h6), trivial⟩ (fun fn hfn => ih_f87L0 fn hfn p0 0 _ h)

theorem f87L0_step (k : Nat) (ih_f87 : f87_P k) (ih_f87L0 : f87L0_P k) : f87L0_P (k + 1) := by
  intro fn hfn p0 x0 r h
  rw [f87L0] at h
  by_cases h1 : x0 < (p0.Kids.length : Int)
  · rw [if_pos h1] at h
    obtain ⟨v1, h2, h⟩ := bnd h
    obtain ⟨v2, h3, h⟩ := bnd h
    by_cases h4 : v2 = true
    · rw [if_pos h4] at h
      exact LH.round hT hm hfn (n := 1000) (ds := [.r [(3, ⟨(.h (.int (p0.Kids.length : Int))), [], []⟩)], .b true, .r [(3, ⟨(.h (.iv (.st [(1, (eI .i64 v1.Class)), (1, (eI .i64 v1.Tag)), (1, (eB v1.Made)), (1, (.sl 1 (v1.Body.map (eI .u8)))), (1, (.sl 5 (v1.Kids.map eSTlv)))]))), [], []⟩), (5, ⟨(.c false [] ⟨[], [], [], 0, (.im (eB v2)), [], 0, [], 1⟩), [], []⟩)], .r [], .b false, .r [], .k ⟨[], [], [], [1, 3], [(0, 0)], 1, [], []⟩])
        (r := (.head cc87_0 [.blk 0, .seq cc87_1] (f87L0_S p0 (IntKind.wrap .i64 (x0 + 1))))) (obs := [((p0.Kids.map eSTlv).length : Int) = (p0.Kids.length : Int), (decide (x0 < (p0.Kids.length : Int))) = true, 0 ≤ x0, (p0.Kids.map eSTlv)[(x0).toNat]? = some (.st [(1, (eI .i64 v1.Class)), (1, (eI .i64 v1.Tag)), (1, (eB v1.Made)), (1, (.sl 1 (v1.Body.map (eI .u8)))), (1, (.sl 5 (v1.Kids.map eSTlv)))]), Ct.Ok PX 87 ⟨[(.im (.st [(1, (eI .i64 v1.Class)), (1, (eI .i64 v1.Tag)), (1, (eB v1.Made)), (1, (.sl 1 (v1.Body.map (eI .u8)))), (1, (.sl 5 (v1.Kids.map eSTlv)))]))], [], 0, (.im (eB v2)), [], 0⟩, (!v2) = false])
        (by kernel_rfl) ⟨(len_m eSTlv _), (dt h1), (rd_nn h2), (by rw [← eSTlv_eq v1]; exact (rd_map eSTlv h2)), (ih_f87 v1 v2 h3), (not_f h4), trivial⟩ (ih_f87L0 fn hfn p0 (IntKind.wrap .i64 (x0 + 1)) _ h)
    · rw [if_neg h4] at h
      replace h := Option.some.inj h; subst h
      exact LH.round hT hm hfn (n := 1000) (ds := [.r [(3, ⟨(.h (.int (p0.Kids.length : Int))), [], []⟩)], .b true, .r [(3, ⟨(.h (.iv (.st [(1, (eI .i64 v1.Class)), (1, (eI .i64 v1.Tag)), (1, (eB v1.Made)), (1, (.sl 1 (v1.Body.map (eI .u8)))), (1, (.sl 5 (v1.Kids.map eSTlv)))]))), [], []⟩), (5, ⟨(.c false [] ⟨[], [], [], 0, (.im (eB v2)), [], 0, [], 1⟩), [], []⟩)], .r [], .b true, .r [], .k ⟨[], [], [], [], [], 0, [], []⟩])
        (r := (.fin (.im (eB false)) [] 0)) (obs := [((p0.Kids.map eSTlv).length : Int) = (p0.Kids.length : Int), (decide (x0 < (p0.Kids.length : Int))) = true, 0 ≤ x0, (p0.Kids.map eSTlv)[(x0).toNat]? = some (.st [(1, (eI .i64 v1.Class)), (1, (eI .i64 v1.Tag)), (1, (eB v1.Made)), (1, (.sl 1 (v1.Body.map (eI .u8)))), (1, (.sl 5 (v1.Kids.map eSTlv)))]), Ct.Ok PX 87 ⟨[(.im (.st [(1, (eI .i64 v1.Class)), (1, (eI .i64 v1.Tag)), (1, (eB v1.Made)), (1, (.sl 1 (v1.Body.map (eI .u8)))), (1, (.sl 5 (v1.Kids.map eSTlv)))]))], [], 0, (.im (eB v2)), [], 0⟩, (!v2) = true])
        (by kernel_rfl) ⟨(len_m eSTlv _), (dt h1), (rd_nn h2), (by rw [← eSTlv_eq v1]; exact (rd_map eSTlv h2)), (ih_f87 v1 v2 h3), (not_t (vf h4)), trivial⟩ ⟨rfl, rfl, rfl⟩
  · rw [if_neg h1] at h
    replace h := Option.some.inj h; subst h
    exact LH.round hT hm hfn (n := 1000) (ds := [.r [(3, ⟨(.h (.int (p0.Kids.length : Int))), [], []⟩)], .b false, .r [], .k ⟨[], [], [], [], [], 0, [], []⟩])
      (r := (.fin (.im (eB true)) [] 0)) (obs := [((p0.Kids.map eSTlv).length : Int) = (p0.Kids.length : Int), (decide (x0 < (p0.Kids.length : Int))) = false])
      (by kernel_rfl) ⟨(len_m eSTlv _), (df h1), trivial⟩ ⟨rfl, rfl, rfl⟩

theorem f87_all : ∀ k, f87_P k ∧ f87L0_P k
  | 0 => ⟨(by intro _ r h; rw [f87] at h; cases h), (by intro fn hfn _ _ r h; rw [f87L0] at h; cases h)⟩
  | k + 1 => ⟨f87_step k (f87_all k).1 (f87_all k).2, f87L0_step k (f87_all k).1 (f87_all k).2⟩

theorem f87_ok (k : Nat) : ∀ (p0 : STlv) (r : Bool), f87 k p0 = some r → Ct.Ok PX 87 ⟨[(.im (.st [(1, (eI .i64 p0.Class)), (1, (eI .i64 p0.Tag)), (1, (eB p0.Made)), (1, (.sl 1 (p0.Body.map (eI .u8)))), (1, (.sl 5 (p0.Kids.map eSTlv)))]))], [], 0, (.im (eB r)), [], 0⟩ := (f87_all k).1

theorem f87L0_ok (fn : Func) (hfn : fn.results = ([.t 2].map Rv.var).toArray) (k : Nat) : ∀ (p0 : STlv) (x0 : Int) (r : Bool), f87L0 k p0 x0 = some r → LH PX ⟨fn, 57, 0, (.im (eB r)), [], 0⟩ cc87_0 [.blk 0, .seq cc87_1] (f87L0_S p0 x0) := (f87_all k).2 fn hfn
end Go.Proofs.Tryd.E
end

section
namespace Go.Proofs.Tryd.E
open Go Go.Eng
set_option maxRecDepth 100000
set_option linter.unusedVariables false
def f88L0_S (p0 : STlv) (x0 : Int) (x1 : Int) : S := ⟨[(1, (.ref 0 [])), (3, (.im (eI .i64 x0))), (4, (.im (eI .i64 x1)))], [(0, (.box false 5 (.im (.st [(1, (eI .i64 p0.Class)), (1, (eI .i64 p0.Tag)), (1, (eB p0.Made)), (1, (.sl 1 (p0.Body.map (eI .u8)))), (1, (.sl 5 (p0.Kids.map eSTlv)))]))))], 1⟩

mutual
def f88 : Nat → STlv → Option (Int)
  | 0, _ => none
  | k + 1, p0 =>
    f88L0 k p0 0 0
def f88L0 : Nat → STlv → Int → Int → Option (Int)
  | 0, _, _, _ => none
  | k + 1, p0, x0, x1 =>
    if x1 < (p0.Kids.length : Int) then (
     (rd p0.Kids x1).bind fun v1 =>
     (f88 k v1).bind fun v2 =>
     if v2 > x0 then (
      f88L0 k p0 v2 (IntKind.wrap .i64 (x1 + 1)))
     else (
      f88L0 k p0 x0 (IntKind.wrap .i64 (x1 + 1))))
    else (
     some (IntKind.wrap .i64 (x0 + 1)))
end

def f88_P (k : Nat) : Prop := ∀ (p0 : STlv) (r : Int), f88 k p0 = some r → Ct.Ok PX 88 ⟨[(.im (.st [(1, (eI .i64 p0.Class)), (1, (eI .i64 p0.Tag)), (1, (eB p0.Made)), (1, (.sl 1 (p0.Body.map (eI .u8)))), (1, (.sl 5 (p0.Kids.map eSTlv)))]))], [], 0, (.im (eI .i64 r)), [], 0⟩

def f88L0_P (k : Nat) : Prop := ∀ (fn : Func) (_ : fn.results = ([.t 2].map Rv.var).toArray), ∀ (p0 : STlv) (x0 : Int) (x1 : Int) (r : Int), f88L0 k p0 x0 x1 = some r → LH PX ⟨fn, 25, 0, (.im (eI .i64 r)), [], 0⟩ cc88_0 [.blk 0, .seq cc88_1] (f88L0_S p0 x0 x1)

theorem f88_step (k : Nat) (ih_f88 : f88_P k) (ih_f88L0 : f88L0_P k) : f88_P (k + 1) := by
  intro p0 r h
  rw [f88] at h
  exact Ct.ofWalk hT hm F88 (by kernel_rfl) (n := 1000) (ds := [.r [], .r [], .r [], .k ⟨[], [], [], [1, 3, 4], [(0, 0)], 1, [], []⟩])
    (r := (.head cc88_0 [.blk 0, .seq cc88_1] (f88L0_S p0 0 0))) (obs := [])
    (by kernel_rfl) trivial (fun fn hfn => ih_f88L0 fn hfn p0 0 0 _ h)

theorem f88L0_step (k : Nat) (ih_f88 : f88_P k) (ih_f88L0 : f88L0_P k) : f88L0_P (k + 1) := by
  intro fn hfn p0 x0 x1 r h
  rw [f88L0] at h
  by_cases h1 : x1 < (p0.Kids.length : Int)
  · rw [if_pos h1] at h
    obtain ⟨v1, h2, h⟩ := bnd h
    obtain ⟨v2, h3, h⟩ := bnd h
    by_cases h4 : v2 > x0
    · rw [if_pos h4] at h
      exact LH.round hT hm hfn (n := 1000) (ds := [.r [(3, ⟨(.h (.int (p0.Kids.length : Int))), [], []⟩)], .b true, .r [(3, ⟨(.h (.iv (.st [(1, (eI .i64 v1.Class)), (1, (eI .i64 v1.Tag)), (1, (eB v1.Made)), (1, (.sl 1 (v1.Body.map (eI .u8)))), (1, (.sl 5 (v1.Kids.map eSTlv)))]))), [], []⟩), (5, ⟨(.c false [] ⟨[], [], [], 0, (.im (eI .i64 v2)), [], 0, [], 1⟩), [], []⟩)], .r [], .b true, .r [], .r [], .k ⟨[], [], [], [1, 3, 4], [(0, 0)], 1, [], []⟩])
        (r := (.head cc88_0 [.blk 0, .seq cc88_1] (f88L0_S p0 v2 (IntKind.wrap .i64 (x1 + 1))))) (obs := [((p0.Kids.map eSTlv).length : Int) = (p0.Kids.length : Int), (decide (x1 < (p0.Kids.length : Int))) = true, 0 ≤ x1, (p0.Kids.map eSTlv)[(x1).toNat]? = some (.st [(1, (eI .i64 v1.Class)), (1, (eI .i64 v1.Tag)), (1, (eB v1.Made)), (1, (.sl 1 (v1.Body.map (eI .u8)))), (1, (.sl 5 (v1.Kids.map eSTlv)))]), Ct.Ok PX 88 ⟨[(.im (.st [(1, (eI .i64 v1.Class)), (1, (eI .i64 v1.Tag)), (1, (eB v1.Made)), (1, (.sl 1 (v1.Body.map (eI .u8)))), (1, (.sl 5 (v1.Kids.map eSTlv)))]))], [], 0, (.im (eI .i64 v2)), [], 0⟩, (decide (v2 > x0)) = true])
        (by kernel_rfl) ⟨(len_m eSTlv _), (dt h1), (rd_nn h2), (by rw [← eSTlv_eq v1]; exact (rd_map eSTlv h2)), (ih_f88 v1 v2 h3), (dt h4), trivial⟩ (ih_f88L0 fn hfn p0 v2 (IntKind.wrap .i64 (x1 + 1)) _ h)
    · rw [if_neg h4] at h
      exact LH.round hT hm hfn (n := 1000) (ds := [.r [(3, ⟨(.h (.int (p0.Kids.length : Int))), [], []⟩)], .b true, .r [(3, ⟨(.h (.iv (.st [(1, (eI .i64 v1.Class)), (1, (eI .i64 v1.Tag)), (1, (eB v1.Made)), (1, (.sl 1 (v1.Body.map (eI .u8)))), (1, (.sl 5 (v1.Kids.map eSTlv)))]))), [], []⟩), (5, ⟨(.c false [] ⟨[], [], [], 0, (.im (eI .i64 v2)), [], 0, [], 1⟩), [], []⟩)], .r [], .b false, .r [], .k ⟨[], [], [], [1, 3, 4], [(0, 0)], 1, [], []⟩])
        (r := (.head cc88_0 [.blk 0, .seq cc88_1] (f88L0_S p0 x0 (IntKind.wrap .i64 (x1 + 1))))) (obs := [((p0.Kids.map eSTlv).length : Int) = (p0.Kids.length : Int), (decide (x1 < (p0.Kids.length : Int))) = true, 0 ≤ x1, (p0.Kids.map eSTlv)[(x1).toNat]? = some (.st [(1, (eI .i64 v1.Class)), (1, (eI .i64 v1.Tag)), (1, (eB v1.Made)), (1, (.sl 1 (v1.Body.map (eI .u8)))), (1, (.sl 5 (v1.Kids.map eSTlv)))]), Ct.Ok PX 88 ⟨[(.im (.st [(1, (eI .i64 v1.Class)), (1, (eI .i64 v1.Tag)), (1, (eB v1.Made)), (1, (.sl 1 (v1.Body.map (eI .u8)))), (1, (.sl 5 (v1.Kids.map eSTlv)))]))], [], 0, (.im (eI .i64 v2)), [], 0⟩, (decide (v2 > x0)) = false])
        (by kernel_rfl) ⟨(len_m eSTlv _), (dt h1), (rd_nn h2), (by rw [← eSTlv_eq v1]; exact (rd_map eSTlv h2)), (ih_f88 v1 v2 h3), (df h4), trivial⟩ (ih_f88L0 fn hfn p0 x0 (IntKind.wrap .i64 (x1 + 1)) _ h)
  · rw [if_neg h1] at h
    replace h := Option.some.inj h; subst h
    exact LH.round hT hm hfn (n := 1000) (ds := [.r [(3, ⟨(.h (.int (p0.Kids.length : Int))), [], []⟩)], .b false, .r [], .k ⟨[], [], [], [], [], 0, [], []⟩])
      (r := (.fin (.im (eI .i64 (IntKind.wrap .i64 (x0 + 1)))) [] 0)) (obs := [((p0.Kids.map eSTlv).length : Int) = (p0.Kids.length : Int), (decide (x1 < (p0.Kids.length : Int))) = false])
      (by kernel_rfl) ⟨(len_m eSTlv _), (df h1), trivial⟩ ⟨rfl, rfl, rfl⟩

theorem f88_all : ∀ k, f88_P k ∧ f88L0_P k
  | 0 => ⟨(by intro _ r h; rw [f88] at h; cases h), (by intro fn hfn _ _ _ r h; rw [f88L0] at h; cases h)⟩
  | k + 1 => ⟨f88_step k (f88_all k).1 (f88_all k).2, f88L0_step k (f88_all k).1 (f88_all k).2⟩

theorem f88_ok (k : Nat) : ∀ (p0 : STlv) (r : Int), f88 k p0 = some r → Ct.Ok PX 88 ⟨[(.im (.st [(1, (eI .i64 p0.Class)), (1, (eI .i64 p0.Tag)), (1, (eB p0.Made)), (1, (.sl 1 (p0.Body.map (eI .u8)))), (1, (.sl 5 (p0.Kids.map eSTlv)))]))], [], 0, (.im (eI .i64 r)), [], 0⟩ := (f88_all k).1

theorem f88L0_ok (fn : Func) (hfn : fn.results = ([.t 2].map Rv.var).toArray) (k : Nat) : ∀ (p0 : STlv) (x0 : Int) (x1 : Int) (r : Int), f88L0 k p0 x0 x1 = some r → LH PX ⟨fn, 25, 0, (.im (eI .i64 r)), [], 0⟩ cc88_0 [.blk 0, .seq cc88_1] (f88L0_S p0 x0 x1) := (f88_all k).2 fn hfn
end Go.Proofs.Tryd.E
end

section
namespace Go.Proofs.Tryd.E
open Go Go.Eng
set_option maxRecDepth 100000
set_option linter.unusedVariables false
def f89L0_S (p0 : STlv) (x0 : (List Int)) (x1 : Int) : S := ⟨[(1, (.ref 0 [])), (3, (.ownF 1 1)), (4, (.im (eI .i64 x1)))], [(0, (.box false 5 (.im (.st [(1, (eI .i64 p0.Class)), (1, (eI .i64 p0.Tag)), (1, (eB p0.Made)), (1, (.sl 1 (p0.Body.map (eI .u8)))), (1, (.sl 5 (p0.Kids.map eSTlv)))])))), (1, (.row 5 1 (x0.map (eI .u8)) 0))], 2⟩

mutual
def f89 : Nat → STlv → Option ((List Int))
  | 0, _ => none
  | k + 1, p0 =>
    (ap 1 [] p0.Body).bind fun v1 =>
    f89L0 k p0 v1 0
def f89L0 : Nat → STlv → (List Int) → Int → Option ((List Int))
  | 0, _, _, _ => none
  | k + 1, p0, x0, x1 =>
    if x1 < (p0.Kids.length : Int) then (
     (rd p0.Kids x1).bind fun v1 =>
     (f89 k v1).bind fun v2 =>
     (ap 1 x0 v2).bind fun v3 =>
     f89L0 k p0 v3 (IntKind.wrap .i64 (x1 + 1)))
    else (
     if p0.Made = true then (
      if (x0.length : Int) < 128 then (
       (ap 1 [(IntKind.wrap .u8 (IntKind.wrap .i64 ((IntKind.wrap .i64 ((IntKind.wrap .i64 (64 * p0.Class)) + p0.Tag)) + 32)))] [(IntKind.wrap .u8 (x0.length : Int))]).bind fun v1 =>
       (ap 1 v1 x0).bind fun v2 =>
       some v2)
      else (
       if (x0.length : Int) < 256 then (
        (ap 1 [(IntKind.wrap .u8 (IntKind.wrap .i64 ((IntKind.wrap .i64 ((IntKind.wrap .i64 (64 * p0.Class)) + p0.Tag)) + 32)))] [129, (IntKind.wrap .u8 (x0.length : Int))]).bind fun v1 =>
        (ap 1 v1 x0).bind fun v2 =>
        some v2)
       else (
        if (x0.length : Int) < 65536 then (
         (ap 1 [(IntKind.wrap .u8 (IntKind.wrap .i64 ((IntKind.wrap .i64 ((IntKind.wrap .i64 (64 * p0.Class)) + p0.Tag)) + 32)))] [130, (IntKind.wrap .u8 (IntKind.wrap .i64 (Int.tdiv (x0.length : Int) 256))), (IntKind.wrap .u8 (Int.tmod (x0.length : Int) 256))]).bind fun v1 =>
         (ap 1 v1 x0).bind fun v2 =>
         some v2)
        else (
         (ap 1 [(IntKind.wrap .u8 (IntKind.wrap .i64 ((IntKind.wrap .i64 ((IntKind.wrap .i64 (64 * p0.Class)) + p0.Tag)) + 32)))] [131, (IntKind.wrap .u8 (IntKind.wrap .i64 (Int.tdiv (x0.length : Int) 65536))), (IntKind.wrap .u8 (Int.tmod (IntKind.wrap .i64 (Int.tdiv (x0.length : Int) 256)) 256)), (IntKind.wrap .u8 (Int.tmod (x0.length : Int) 256))]).bind fun v1 =>
         (ap 1 v1 x0).bind fun v2 =>
         some v2))))
     else (
      if (x0.length : Int) < 128 then (
       (ap 1 [(IntKind.wrap .u8 (IntKind.wrap .i64 ((IntKind.wrap .i64 (64 * p0.Class)) + p0.Tag)))] [(IntKind.wrap .u8 (x0.length : Int))]).bind fun v1 =>
       (ap 1 v1 x0).bind fun v2 =>
       some v2)
      else (
       if (x0.length : Int) < 256 then (
        (ap 1 [(IntKind.wrap .u8 (IntKind.wrap .i64 ((IntKind.wrap .i64 (64 * p0.Class)) + p0.Tag)))] [129, (IntKind.wrap .u8 (x0.length : Int))]).bind fun v1 =>
        (ap 1 v1 x0).bind fun v2 =>
        some v2)
       else (
        if (x0.length : Int) < 65536 then (
         (ap 1 [(IntKind.wrap .u8 (IntKind.wrap .i64 ((IntKind.wrap .i64 (64 * p0.Class)) + p0.Tag)))] [130, (IntKind.wrap .u8 (IntKind.wrap .i64 (Int.tdiv (x0.length : Int) 256))), (IntKind.wrap .u8 (Int.tmod (x0.length : Int) 256))]).bind fun v1 =>
         (ap 1 v1 x0).bind fun v2 =>
         some v2)
        else (
         (ap 1 [(IntKind.wrap .u8 (IntKind.wrap .i64 ((IntKind.wrap .i64 (64 * p0.Class)) + p0.Tag)))] [131, (IntKind.wrap .u8 (IntKind.wrap .i64 (Int.tdiv (x0.length : Int) 65536))), (IntKind.wrap .u8 (Int.tmod (IntKind.wrap .i64 (Int.tdiv (x0.length : Int) 256)) 256)), (IntKind.wrap .u8 (Int.tmod (x0.length : Int) 256))]).bind fun v1 =>
         (ap 1 v1 x0).bind fun v2 =>
         some v2)))))
end

def f89_P (k : Nat) : Prop := ∀ (p0 : STlv) (r : (List Int)), f89 k p0 = some r → Ct.Ok PX 89 ⟨[(.im (.st [(1, (eI .i64 p0.Class)), (1, (eI .i64 p0.Tag)), (1, (eB p0.Made)), (1, (.sl 1 (p0.Body.map (eI .u8)))), (1, (.sl 5 (p0.Kids.map eSTlv)))]))], [], 0, (.im (.sl 1 (r.map (eI .u8)))), [], 0⟩

def f89L0_P (k : Nat) : Prop := ∀ (fn : Func) (_ : fn.results = ([.t 2].map Rv.var).toArray), ∀ (p0 : STlv) (x0 : (List Int)) (x1 : Int) (r : (List Int)), f89L0 k p0 x0 x1 = some r → LH PX ⟨fn, 83, 0, (.im (.sl 1 (r.map (eI .u8)))), [], 0⟩ cc89_0 [.blk 0, .seq cc89_1] (f89L0_S p0 x0 x1)

theorem f89_step (k : Nat) (ih_f89 : f89_P k) (ih_f89L0 : f89L0_P k) : f89_P (k + 1) := by
  intro p0 r h
  rw [f89] at h
  obtain ⟨v1, h1, h⟩ := bnd h
  exact Ct.ofWalk hT hm F89 (by kernel_rfl) (n := 1000) (ds := [.r [], .r [(3, ⟨(.h (.ivs (v1.map (eI .u8)))), [], []⟩)], .r [], .k ⟨[], [], [], [1, 3, 4], [(0, 0), (1, 2)], 2, [], []⟩])
    (r := (.head cc89_0 [.blk 0, .seq cc89_1] (f89L0_S p0 v1 0))) (obs := [[] ++ (p0.Body.map (eI .u8)) = (v1.map (eI .u8)), (v1.map (eI .u8)).length * 1 ≤ 140737488355328, (v1.map (eI .u8)).length ≤ 9223372036854775807])
    (by kernel_rfl) ⟨(ap_map (eI .u8) h1), (ap_b (eI .u8) h1), (ap_n (eI .u8) h1), trivial⟩ (fun fn hfn => ih_f89L0 fn hfn p0 v1 0 _ h)

theorem f89L0_step (k : Nat) (ih_f89 : f89_P k) (ih_f89L0 : f89L0_P k) : f89L0_P (k + 1) := by
  intro fn hfn p0 x0 x1 r h
  rw [f89L0] at h
  by_cases h1 : x1 < (p0.Kids.length : Int)
  · rw [if_pos h1] at h
    obtain ⟨v1, h2, h⟩ := bnd h
    obtain ⟨v2, h3, h⟩ := bnd h
    obtain ⟨v3, h4, h⟩ := bnd h
    exact LH.round hT hm hfn (n := 1000) (ds := [.r [(3, ⟨(.h (.int (p0.Kids.length : Int))), [], []⟩)], .b true, .r [(4, ⟨(.h (.iv (.st [(1, (eI .i64 v1.Class)), (1, (eI .i64 v1.Tag)), (1, (eB v1.Made)), (1, (.sl 1 (v1.Body.map (eI .u8)))), (1, (.sl 5 (v1.Kids.map eSTlv)))]))), [], []⟩), (6, ⟨(.c false [] ⟨[], [], [], 0, (.im (.sl 1 (v2.map (eI .u8)))), [], 0, [], 2⟩), [], []⟩), (7, ⟨(.h (.ivs (v3.map (eI .u8)))), [], []⟩)], .r [], .k ⟨[], [], [], [1, 3, 4], [(0, 0), (1, 2)], 2, [], []⟩])
      (r := (.head cc89_0 [.blk 0, .seq cc89_1] (f89L0_S p0 v3 (IntKind.wrap .i64 (x1 + 1))))) (obs := [((p0.Kids.map eSTlv).length : Int) = (p0.Kids.length : Int), (decide (x1 < (p0.Kids.length : Int))) = true, 0 ≤ x1, (p0.Kids.map eSTlv)[(x1).toNat]? = some (.st [(1, (eI .i64 v1.Class)), (1, (eI .i64 v1.Tag)), (1, (eB v1.Made)), (1, (.sl 1 (v1.Body.map (eI .u8)))), (1, (.sl 5 (v1.Kids.map eSTlv)))]), Ct.Ok PX 89 ⟨[(.im (.st [(1, (eI .i64 v1.Class)), (1, (eI .i64 v1.Tag)), (1, (eB v1.Made)), (1, (.sl 1 (v1.Body.map (eI .u8)))), (1, (.sl 5 (v1.Kids.map eSTlv)))]))], [], 0, (.im (.sl 1 (v2.map (eI .u8)))), [], 0⟩, (x0.map (eI .u8)) ++ (v2.map (eI .u8)) = (v3.map (eI .u8)), (v3.map (eI .u8)).length * 1 ≤ 140737488355328, (v3.map (eI .u8)).length ≤ 9223372036854775807])
      (by kernel_rfl) ⟨(len_m eSTlv _), (dt h1), (rd_nn h2), (by rw [← eSTlv_eq v1]; exact (rd_map eSTlv h2)), (ih_f89 v1 v2 h3), (ap_map (eI .u8) h4), (ap_b (eI .u8) h4), (ap_n (eI .u8) h4), trivial⟩ (ih_f89L0 fn hfn p0 v3 (IntKind.wrap .i64 (x1 + 1)) _ h)
  · rw [if_neg h1] at h
    by_cases h2 : p0.Made = true
    · rw [if_pos h2] at h
      by_cases h3 : (x0.length : Int) < 128
      · rw [if_pos h3] at h
        obtain ⟨v1, h4, h⟩ := bnd h
        obtain ⟨v2, h5, h⟩ := bnd h
        replace h := Option.some.inj h; subst h
        exact LH.round hT hm hfn (n := 1000) (ds := [.r [(3, ⟨(.h (.int (p0.Kids.length : Int))), [], []⟩)], .b false, .r [], .r [], .b true, .r [], .r [], .r [(1, ⟨(.h (.int (x0.length : Int))), [], []⟩)], .r [], .b true, .r [(4, ⟨(.h (.ivs (v1.map (eI .u8)))), [], []⟩)], .r [(2, ⟨(.h (.ivs (v2.map (eI .u8)))), [], []⟩)], .k ⟨[], [], [5], [], [], 0, [], []⟩])
          (r := (.fin (.im (.sl 1 (v2.map (eI .u8)))) [] 0)) (obs := [((p0.Kids.map eSTlv).length : Int) = (p0.Kids.length : Int), (decide (x1 < (p0.Kids.length : Int))) = false, p0.Made = true, ((x0.map (eI .u8)).length : Int) = (x0.length : Int), (decide ((x0.length : Int) < 128)) = true, [(eI .u8 (IntKind.wrap .u8 (IntKind.wrap .i64 ((IntKind.wrap .i64 ((IntKind.wrap .i64 (64 * p0.Class)) + p0.Tag)) + 32))))] ++ [(eI .u8 (IntKind.wrap .u8 (x0.length : Int)))] = (v1.map (eI .u8)), (v1.map (eI .u8)).length * 1 ≤ 140737488355328, (v1.map (eI .u8)).length ≤ 9223372036854775807, (v1.map (eI .u8)) ++ (x0.map (eI .u8)) = (v2.map (eI .u8)), (v2.map (eI .u8)).length * 1 ≤ 140737488355328, (v2.map (eI .u8)).length ≤ 9223372036854775807])
          (by kernel_rfl) ⟨(len_m eSTlv _), (df h1), h2, (len_m (eI .u8) _), (dt h3), (ap_map (eI .u8) h4), (ap_b (eI .u8) h4), (ap_n (eI .u8) h4), (ap_map (eI .u8) h5), (ap_b (eI .u8) h5), (ap_n (eI .u8) h5), trivial⟩ ⟨rfl, rfl, rfl⟩
      · rw [if_neg h3] at h
        by_cases h4 : (x0.length : Int) < 256
        · rw [if_pos h4] at h
          obtain ⟨v1, h5, h⟩ := bnd h
          obtain ⟨v2, h6, h⟩ := bnd h
          replace h := Option.some.inj h; subst h
          exact LH.round hT hm hfn (n := 1000) (ds := [.r [(3, ⟨(.h (.int (p0.Kids.length : Int))), [], []⟩)], .b false, .r [], .r [], .b true, .r [], .r [], .r [(1, ⟨(.h (.int (x0.length : Int))), [], []⟩)], .r [], .b false, .r [], .b true, .r [(4, ⟨(.h (.ivs (v1.map (eI .u8)))), [], []⟩)], .r [(2, ⟨(.h (.ivs (v2.map (eI .u8)))), [], []⟩)], .k ⟨[], [], [5], [], [], 0, [], []⟩])
            (r := (.fin (.im (.sl 1 (v2.map (eI .u8)))) [] 0)) (obs := [((p0.Kids.map eSTlv).length : Int) = (p0.Kids.length : Int), (decide (x1 < (p0.Kids.length : Int))) = false, p0.Made = true, ((x0.map (eI .u8)).length : Int) = (x0.length : Int), (decide ((x0.length : Int) < 128)) = false, (decide ((x0.length : Int) < 256)) = true, [(eI .u8 (IntKind.wrap .u8 (IntKind.wrap .i64 ((IntKind.wrap .i64 ((IntKind.wrap .i64 (64 * p0.Class)) + p0.Tag)) + 32))))] ++ [(eI .u8 129), (eI .u8 (IntKind.wrap .u8 (x0.length : Int)))] = (v1.map (eI .u8)), (v1.map (eI .u8)).length * 1 ≤ 140737488355328, (v1.map (eI .u8)).length ≤ 9223372036854775807, (v1.map (eI .u8)) ++ (x0.map (eI .u8)) = (v2.map (eI .u8)), (v2.map (eI .u8)).length * 1 ≤ 140737488355328, (v2.map (eI .u8)).length ≤ 9223372036854775807])
            (by kernel_rfl) ⟨(len_m eSTlv _), (df h1), h2, (len_m (eI .u8) _), (df h3), (dt h4), (ap_map (eI .u8) h5), (ap_b (eI .u8) h5), (ap_n (eI .u8) h5), (ap_map (eI .u8) h6), (ap_b (eI .u8) h6), (ap_n (eI .u8) h6), trivial⟩ ⟨rfl, rfl, rfl⟩
        · rw [if_neg h4] at h
          by_cases h5 : (x0.length : Int) < 65536
          · rw [if_pos h5] at h
            obtain ⟨v1, h6, h⟩ := bnd h
            obtain ⟨v2, h7, h⟩ := bnd h
            replace h := Option.some.inj h; subst h
            exact LH.round hT hm hfn (n := 1000) (ds := [.r [(3, ⟨(.h (.int (p0.Kids.length : Int))), [], []⟩)], .b false, .r [], .r [], .b true, .r [], .r [], .r [(1, ⟨(.h (.int (x0.length : Int))), [], []⟩)], .r [], .b false, .r [], .b false, .r [], .b true, .r [(8, ⟨(.h (.ivs (v1.map (eI .u8)))), [], []⟩)], .r [(2, ⟨(.h (.ivs (v2.map (eI .u8)))), [], []⟩)], .k ⟨[], [], [5], [], [], 0, [], []⟩])
              (r := (.fin (.im (.sl 1 (v2.map (eI .u8)))) [] 0)) (obs := [((p0.Kids.map eSTlv).length : Int) = (p0.Kids.length : Int), (decide (x1 < (p0.Kids.length : Int))) = false, p0.Made = true, ((x0.map (eI .u8)).length : Int) = (x0.length : Int), (decide ((x0.length : Int) < 128)) = false, (decide ((x0.length : Int) < 256)) = false, (decide ((x0.length : Int) < 65536)) = true, [(eI .u8 (IntKind.wrap .u8 (IntKind.wrap .i64 ((IntKind.wrap .i64 ((IntKind.wrap .i64 (64 * p0.Class)) + p0.Tag)) + 32))))] ++ [(eI .u8 130), (eI .u8 (IntKind.wrap .u8 (IntKind.wrap .i64 (Int.tdiv (x0.length : Int) 256)))), (eI .u8 (IntKind.wrap .u8 (Int.tmod (x0.length : Int) 256)))] = (v1.map (eI .u8)), (v1.map (eI .u8)).length * 1 ≤ 140737488355328, (v1.map (eI .u8)).length ≤ 9223372036854775807, (v1.map (eI .u8)) ++ (x0.map (eI .u8)) = (v2.map (eI .u8)), (v2.map (eI .u8)).length * 1 ≤ 140737488355328, (v2.map (eI .u8)).length ≤ 9223372036854775807])
              (by kernel_rfl) ⟨(len_m eSTlv _), (df h1), h2, (len_m (eI .u8) _), (df h3), (df h4), (dt h5), (ap_map (eI .u8) h6), (ap_b (eI .u8) h6), (ap_n (eI .u8) h6), (ap_map (eI .u8) h7), (ap_b (eI .u8) h7), (ap_n (eI .u8) h7), trivial⟩ ⟨rfl, rfl, rfl⟩
          · rw [if_neg h5] at h
            obtain ⟨v1, h6, h⟩ := bnd h
            obtain ⟨v2, h7, h⟩ := bnd h
            replace h := Option.some.inj h; subst h
            exact LH.round hT hm hfn (n := 1000) (ds := [.r [(3, ⟨(.h (.int (p0.Kids.length : Int))), [], []⟩)], .b false, .r [], .r [], .b true, .r [], .r [], .r [(1, ⟨(.h (.int (x0.length : Int))), [], []⟩)], .r [], .b false, .r [], .b false, .r [], .b false, .r [(12, ⟨(.h (.ivs (v1.map (eI .u8)))), [], []⟩)], .r [(2, ⟨(.h (.ivs (v2.map (eI .u8)))), [], []⟩)], .k ⟨[], [], [5], [], [], 0, [], []⟩])
              (r := (.fin (.im (.sl 1 (v2.map (eI .u8)))) [] 0)) (obs := [((p0.Kids.map eSTlv).length : Int) = (p0.Kids.length : Int), (decide (x1 < (p0.Kids.length : Int))) = false, p0.Made = true, ((x0.map (eI .u8)).length : Int) = (x0.length : Int), (decide ((x0.length : Int) < 128)) = false, (decide ((x0.length : Int) < 256)) = false, (decide ((x0.length : Int) < 65536)) = false, [(eI .u8 (IntKind.wrap .u8 (IntKind.wrap .i64 ((IntKind.wrap .i64 ((IntKind.wrap .i64 (64 * p0.Class)) + p0.Tag)) + 32))))] ++ [(eI .u8 131), (eI .u8 (IntKind.wrap .u8 (IntKind.wrap .i64 (Int.tdiv (x0.length : Int) 65536)))), (eI .u8 (IntKind.wrap .u8 (Int.tmod (IntKind.wrap .i64 (Int.tdiv (x0.length : Int) 256)) 256))), (eI .u8 (IntKind.wrap .u8 (Int.tmod (x0.length : Int) 256)))] = (v1.map (eI .u8)), (v1.map (eI .u8)).length * 1 ≤ 140737488355328, (v1.map (eI .u8)).length ≤ 9223372036854775807, (v1.map (eI .u8)) ++ (x0.map (eI .u8)) = (v2.map (eI .u8)), (v2.map (eI .u8)).length * 1 ≤ 140737488355328, (v2.map (eI .u8)).length ≤ 9223372036854775807])
              (by kernel_rfl) ⟨(len_m eSTlv _), (df h1), h2, (len_m (eI .u8) _), (df h3), (df h4), (df h5), (ap_map (eI .u8) h6), (ap_b (eI .u8) h6), (ap_n (eI .u8) h6), (ap_map (eI .u8) h7), (ap_b (eI .u8) h7), (ap_n (eI .u8) h7), trivial⟩ ⟨rfl, rfl, rfl⟩
    · rw [if_neg h2] at h
      by_cases h3 : (x0.length : Int) < 128
      · rw [if_pos h3] at h
        obtain ⟨v1, h4, h⟩ := bnd h
        obtain ⟨v2, h5, h⟩ := bnd h
        replace h := Option.some.inj h; subst h
        exact LH.round hT hm hfn (n := 1000) (ds := [.r [(3, ⟨(.h (.int (p0.Kids.length : Int))), [], []⟩)], .b false, .r [], .r [], .b false, .r [], .r [(1, ⟨(.h (.int (x0.length : Int))), [], []⟩)], .r [], .b true, .r [(4, ⟨(.h (.ivs (v1.map (eI .u8)))), [], []⟩)], .r [(2, ⟨(.h (.ivs (v2.map (eI .u8)))), [], []⟩)], .k ⟨[], [], [5], [], [], 0, [], []⟩])
          (r := (.fin (.im (.sl 1 (v2.map (eI .u8)))) [] 0)) (obs := [((p0.Kids.map eSTlv).length : Int) = (p0.Kids.length : Int), (decide (x1 < (p0.Kids.length : Int))) = false, p0.Made = false, ((x0.map (eI .u8)).length : Int) = (x0.length : Int), (decide ((x0.length : Int) < 128)) = true, [(eI .u8 (IntKind.wrap .u8 (IntKind.wrap .i64 ((IntKind.wrap .i64 (64 * p0.Class)) + p0.Tag))))] ++ [(eI .u8 (IntKind.wrap .u8 (x0.length : Int)))] = (v1.map (eI .u8)), (v1.map (eI .u8)).length * 1 ≤ 140737488355328, (v1.map (eI .u8)).length ≤ 9223372036854775807, (v1.map (eI .u8)) ++ (x0.map (eI .u8)) = (v2.map (eI .u8)), (v2.map (eI .u8)).length * 1 ≤ 140737488355328, (v2.map (eI .u8)).length ≤ 9223372036854775807])
          (by kernel_rfl) ⟨(len_m eSTlv _), (df h1), (vf h2), (len_m (eI .u8) _), (dt h3), (ap_map (eI .u8) h4), (ap_b (eI .u8) h4), (ap_n (eI .u8) h4), (ap_map (eI .u8) h5), (ap_b (eI .u8) h5), (ap_n (eI .u8) h5), trivial⟩ ⟨rfl, rfl, rfl⟩
      · rw [if_neg h3] at h
        by_cases h4 : (x0.length : Int) < 256
        · rw [if_pos h4] at h
          obtain ⟨v1, h5, h⟩ := bnd h
          obtain ⟨v2, h6, h⟩ := bnd h
          replace h := Option.some.inj h; subst h
          exact LH.round hT hm hfn (n := 1000) (ds := [.r [(3, ⟨(.h (.int (p0.Kids.length : Int))), [], []⟩)], .b false, .r [], .r [], .b false, .r [], .r [(1, ⟨(.h (.int (x0.length : Int))), [], []⟩)], .r [], .b false, .r [], .b true, .r [(4, ⟨(.h (.ivs (v1.map (eI .u8)))), [], []⟩)], .r [(2, ⟨(.h (.ivs (v2.map (eI .u8)))), [], []⟩)], .k ⟨[], [], [5], [], [], 0, [], []⟩])
            (r := (.fin (.im (.sl 1 (v2.map (eI .u8)))) [] 0)) (obs := [((p0.Kids.map eSTlv).length : Int) = (p0.Kids.length : Int), (decide (x1 < (p0.Kids.length : Int))) = false, p0.Made = false, ((x0.map (eI .u8)).length : Int) = (x0.length : Int), (decide ((x0.length : Int) < 128)) = false, (decide ((x0.length : Int) < 256)) = true, [(eI .u8 (IntKind.wrap .u8 (IntKind.wrap .i64 ((IntKind.wrap .i64 (64 * p0.Class)) + p0.Tag))))] ++ [(eI .u8 129), (eI .u8 (IntKind.wrap .u8 (x0.length : Int)))] = (v1.map (eI .u8)), (v1.map (eI .u8)).length * 1 ≤ 140737488355328, (v1.map (eI .u8)).length ≤ 9223372036854775807, (v1.map (eI .u8)) ++ (x0.map (eI .u8)) = (v2.map (eI .u8)), (v2.map (eI .u8)).length * 1 ≤ 140737488355328, (v2.map (eI .u8)).length ≤ 9223372036854775807])
            (by kernel_rfl) ⟨(len_m eSTlv _), (df h1), (vf h2), (len_m (eI .u8) _), (df h3), (dt h4), (ap_map (eI .u8) h5), (ap_b (eI .u8) h5), (ap_n (eI .u8) h5), (ap_map (eI .u8) h6), (ap_b (eI .u8) h6), (ap_n (eI .u8) h6), trivial⟩ ⟨rfl, rfl, rfl⟩
        · rw [if_neg h4] at h
          by_cases h5 : (x0.length : Int) < 65536
          · rw [if_pos h5] at h
            obtain ⟨v1, h6, h⟩ := bnd h
            obtain ⟨v2, h7, h⟩ := bnd h
            replace h := Option.some.inj h; subst h
            exact LH.round hT hm hfn (n := 1000) (ds := [.r [(3, ⟨(.h (.int (p0.Kids.length : Int))), [], []⟩)], .b false, .r [], .r [], .b false, .r [], .r [(1, ⟨(.h (.int (x0.length : Int))), [], []⟩)], .r [], .b false, .r [], .b false, .r [], .b true, .r [(8, ⟨(.h (.ivs (v1.map (eI .u8)))), [], []⟩)], .r [(2, ⟨(.h (.ivs (v2.map (eI .u8)))), [], []⟩)], .k ⟨[], [], [5], [], [], 0, [], []⟩])
              (r := (.fin (.im (.sl 1 (v2.map (eI .u8)))) [] 0)) (obs := [((p0.Kids.map eSTlv).length : Int) = (p0.Kids.length : Int), (decide (x1 < (p0.Kids.length : Int))) = false, p0.Made = false, ((x0.map (eI .u8)).length : Int) = (x0.length : Int), (decide ((x0.length : Int) < 128)) = false, (decide ((x0.length : Int) < 256)) = false, (decide ((x0.length : Int) < 65536)) = true, [(eI .u8 (IntKind.wrap .u8 (IntKind.wrap .i64 ((IntKind.wrap .i64 (64 * p0.Class)) + p0.Tag))))] ++ [(eI .u8 130), (eI .u8 (IntKind.wrap .u8 (IntKind.wrap .i64 (Int.tdiv (x0.length : Int) 256)))), (eI .u8 (IntKind.wrap .u8 (Int.tmod (x0.length : Int) 256)))] = (v1.map (eI .u8)), (v1.map (eI .u8)).length * 1 ≤ 140737488355328, (v1.map (eI .u8)).length ≤ 9223372036854775807, (v1.map (eI .u8)) ++ (x0.map (eI .u8)) = (v2.map (eI .u8)), (v2.map (eI .u8)).length * 1 ≤ 140737488355328, (v2.map (eI .u8)).length ≤ 9223372036854775807])
              (by kernel_rfl) ⟨(len_m eSTlv _), (df h1), (vf h2), (len_m (eI .u8) _), (df h3), (df h4), (dt h5), (ap_map (eI .u8) h6), (ap_b (eI .u8) h6), (ap_n (eI .u8) h6), (ap_map (eI .u8) h7), (ap_b (eI .u8) h7), (ap_n (eI .u8) h7), trivial⟩ ⟨rfl, rfl, rfl⟩
          · rw [if_neg h5] at h
            obtain ⟨v1, h6, h⟩ := bnd h
            obtain ⟨v2, h7, h⟩ := bnd h
            replace h := Option.some.inj h; subst h
            exact LH.round hT hm hfn (n := 1000) (ds := [.r [(3, ⟨(.h (.int (p0.Kids.length : Int))), [], []⟩)], .b false, .r [], .r [], .b false, .r [], .r [(1, ⟨(.h (.int (x0.length : Int))), [], []⟩)], .r [], .b false, .r [], .b false, .r [], .b false, .r [(12, ⟨(.h (.ivs (v1.map (eI .u8)))), [], []⟩)], .r [(2, ⟨(.h (.ivs (v2.map (eI .u8)))), [], []⟩)], .k ⟨[], [], [5], [], [], 0, [], []⟩])
              (r := (.fin (.im (.sl 1 (v2.map (eI .u8)))) [] 0)) (obs := [((p0.Kids.map eSTlv).length : Int) = (p0.Kids.length : Int), (decide (x1 < (p0.Kids.length : Int))) = false, p0.Made = false, ((x0.map (eI .u8)).length : Int) = (x0.length : Int), (decide ((x0.length : Int) < 128)) = false, (decide ((x0.length : Int) < 256)) = false, (decide ((x0.length : Int) < 65536)) = false, [(eI .u8 (IntKind.wrap .u8 (IntKind.wrap .i64 ((IntKind.wrap .i64 (64 * p0.Class)) + p0.Tag))))] ++ [(eI .u8 131), (eI .u8 (IntKind.wrap .u8 (IntKind.wrap .i64 (Int.tdiv (x0.length : Int) 65536)))), (eI .u8 (IntKind.wrap .u8 (Int.tmod (IntKind.wrap .i64 (Int.tdiv (x0.length : Int) 256)) 256))), (eI .u8 (IntKind.wrap .u8 (Int.tmod (x0.length : Int) 256)))] = (v1.map (eI .u8)), (v1.map (eI .u8)).length * 1 ≤ 140737488355328, (v1.map (eI .u8)).length ≤ 9223372036854775807, (v1.map (eI .u8)) ++ (x0.map (eI .u8)) = (v2.map (eI .u8)), (v2.map (eI .u8)).length * 1 ≤ 140737488355328, (v2.map (eI .u8)).length ≤ 9223372036854775807])
              (by kernel_rfl) ⟨(len_m eSTlv _), (df h1), (vf h2), (len_m (eI .u8) _), (df h3), (df h4), (df h5), (ap_map (eI .u8) h6), (ap_b (eI .u8) h6), (ap_n (eI .u8) h6), (ap_map (eI .u8) h7), (ap_b (eI .u8) h7), (ap_n (eI .u8) h7), trivial⟩ ⟨rfl, rfl, rfl⟩

theorem f89_all : ∀ k, f89_P k ∧ f89L0_P k
  | 0 => ⟨(by intro _ r h; rw [f89] at h; cases h), (by intro fn hfn _ _ _ r h; rw [f89L0] at h; cases h)⟩
  | k + 1 => ⟨f89_step k (f89_all k).1 (f89_all k).2, f89L0_step k (f89_all k).1 (f89_all k).2⟩

theorem f89_ok (k : Nat) : ∀ (p0 : STlv) (r : (List Int)), f89 k p0 = some r → Ct.Ok PX 89 ⟨[(.im (.st [(1, (eI .i64 p0.Class)), (1, (eI .i64 p0.Tag)), (1, (eB p0.Made)), (1, (.sl 1 (p0.Body.map (eI .u8)))), (1, (.sl 5 (p0.Kids.map eSTlv)))]))], [], 0, (.im (.sl 1 (r.map (eI .u8)))), [], 0⟩ := (f89_all k).1

theorem f89L0_ok (fn : Func) (hfn : fn.results = ([.t 2].map Rv.var).toArray) (k : Nat) : ∀ (p0 : STlv) (x0 : (List Int)) (x1 : Int) (r : (List Int)), f89L0 k p0 x0 x1 = some r → LH PX ⟨fn, 83, 0, (.im (.sl 1 (r.map (eI .u8)))), [], 0⟩ cc89_0 [.blk 0, .seq cc89_1] (f89L0_S p0 x0 x1) := (f89_all k).2 fn hfn
end Go.Proofs.Tryd.E
end

section
namespace Go.Proofs.Tryd.E
open Go Go.Eng
set_option maxRecDepth 100000
set_option linter.unusedVariables false
def f47 (k : Nat) (p0 : STlv) : Option ((List Int) × Int) :=
  (f87 k p0).bind fun v1 =>
  if v1 = true then (
   (f88 k p0).bind fun v2 =>
   if v2 > 16 then (
    some ([], 9))
   else (
    (f89 k p0).bind fun v3 =>
    if (v3.length : Int) > 1048576 then (
     some ([], 2))
    else (
     some (v3, 0))))
  else (
   some ([], 1))

theorem f47_ok (k : Nat) : ∀ (p0 : STlv) (r : (List Int) × Int), f47 k p0 = some r → Ct.Ok PX 47 ⟨[(.im (.st [(1, (eI .i64 p0.Class)), (1, (eI .i64 p0.Tag)), (1, (eB p0.Made)), (1, (.sl 1 (p0.Body.map (eI .u8)))), (1, (.sl 5 (p0.Kids.map eSTlv)))]))], [], 0, (.tup [(.im (.sl 1 (r.1.map (eI .u8)))), (.im (eI .i64 r.2))]), [], 0⟩ := by
  intro p0 r h
  unfold f47 at h
  obtain ⟨v1, h1, h⟩ := bnd h
  by_cases h2 : v1 = true
  · rw [if_pos h2] at h
    obtain ⟨v2, h3, h⟩ := bnd h
    by_cases h4 : v2 > 16
    · rw [if_pos h4] at h
      replace h := Option.some.inj h; subst h
      exact Ct.ofWalk hT hm F47 (by kernel_rfl) (n := 1000) (ds := [.r [], .r [(1, ⟨(.c false [] ⟨[], [], [], 0, (.im (eB v1)), [], 0, [], 1⟩), [], []⟩)], .r [], .b false, .r [(1, ⟨(.c false [] ⟨[], [], [], 0, (.im (eI .i64 v2)), [], 0, [], 1⟩), [], []⟩)], .b true, .r [], .k ⟨[], [], [], [], [], 0, [(0, (.s [(.n 1)]))], []⟩])
        (r := (.fin (.tup [(.im (.sl 1 [])), (.im (eI .i64 9))]) [] 0)) (obs := [Ct.Ok PX 87 ⟨[(.im (.st [(1, (eI .i64 p0.Class)), (1, (eI .i64 p0.Tag)), (1, (eB p0.Made)), (1, (.sl 1 (p0.Body.map (eI .u8)))), (1, (.sl 5 (p0.Kids.map eSTlv)))]))], [], 0, (.im (eB v1)), [], 0⟩, (!v1) = false, Ct.Ok PX 88 ⟨[(.im (.st [(1, (eI .i64 p0.Class)), (1, (eI .i64 p0.Tag)), (1, (eB p0.Made)), (1, (.sl 1 (p0.Body.map (eI .u8)))), (1, (.sl 5 (p0.Kids.map eSTlv)))]))], [], 0, (.im (eI .i64 v2)), [], 0⟩, (decide (v2 > 16)) = true])
        (by kernel_rfl) ⟨(f87_ok k p0 v1 h1), (not_f h2), (f88_ok k p0 v2 h3), (dt h4), trivial⟩ (fun fn hfn => ⟨rfl, rfl, rfl⟩)
    · rw [if_neg h4] at h
      obtain ⟨v3, h5, h⟩ := bnd h
      by_cases h6 : (v3.length : Int) > 1048576
      · rw [if_pos h6] at h
        replace h := Option.some.inj h; subst h
        exact Ct.ofWalk hT hm F47 (by kernel_rfl) (n := 1000) (ds := [.r [], .r [(1, ⟨(.c false [] ⟨[], [], [], 0, (.im (eB v1)), [], 0, [], 1⟩), [], []⟩)], .r [], .b false, .r [(1, ⟨(.c false [] ⟨[], [], [], 0, (.im (eI .i64 v2)), [], 0, [], 1⟩), [], []⟩)], .b false, .r [(1, ⟨(.c false [] ⟨[], [], [], 0, (.im (.sl 1 (v3.map (eI .u8)))), [], 0, [], 1⟩), [], []⟩)], .r [(1, ⟨(.h (.int (v3.length : Int))), [], []⟩)], .b true, .r [], .k ⟨[], [], [], [], [], 0, [(0, (.s [(.n 1)]))], []⟩])
          (r := (.fin (.tup [(.im (.sl 1 [])), (.im (eI .i64 2))]) [] 0)) (obs := [Ct.Ok PX 87 ⟨[(.im (.st [(1, (eI .i64 p0.Class)), (1, (eI .i64 p0.Tag)), (1, (eB p0.Made)), (1, (.sl 1 (p0.Body.map (eI .u8)))), (1, (.sl 5 (p0.Kids.map eSTlv)))]))], [], 0, (.im (eB v1)), [], 0⟩, (!v1) = false, Ct.Ok PX 88 ⟨[(.im (.st [(1, (eI .i64 p0.Class)), (1, (eI .i64 p0.Tag)), (1, (eB p0.Made)), (1, (.sl 1 (p0.Body.map (eI .u8)))), (1, (.sl 5 (p0.Kids.map eSTlv)))]))], [], 0, (.im (eI .i64 v2)), [], 0⟩, (decide (v2 > 16)) = false, Ct.Ok PX 89 ⟨[(.im (.st [(1, (eI .i64 p0.Class)), (1, (eI .i64 p0.Tag)), (1, (eB p0.Made)), (1, (.sl 1 (p0.Body.map (eI .u8)))), (1, (.sl 5 (p0.Kids.map eSTlv)))]))], [], 0, (.im (.sl 1 (v3.map (eI .u8)))), [], 0⟩, ((v3.map (eI .u8)).length : Int) = (v3.length : Int), (decide ((v3.length : Int) > 1048576)) = true])
          (by kernel_rfl) ⟨(f87_ok k p0 v1 h1), (not_f h2), (f88_ok k p0 v2 h3), (df h4), (f89_ok k p0 v3 h5), (len_m (eI .u8) _), (dt h6), trivial⟩ (fun fn hfn => ⟨rfl, rfl, rfl⟩)
      · rw [if_neg h6] at h
        replace h := Option.some.inj h; subst h
        exact Ct.ofWalk hT hm F47 (by kernel_rfl) (n := 1000) (ds := [.r [], .r [(1, ⟨(.c false [] ⟨[], [], [], 0, (.im (eB v1)), [], 0, [], 1⟩), [], []⟩)], .r [], .b false, .r [(1, ⟨(.c false [] ⟨[], [], [], 0, (.im (eI .i64 v2)), [], 0, [], 1⟩), [], []⟩)], .b false, .r [(1, ⟨(.c false [] ⟨[], [], [], 0, (.im (.sl 1 (v3.map (eI .u8)))), [], 0, [], 1⟩), [], []⟩)], .r [(1, ⟨(.h (.int (v3.length : Int))), [], []⟩)], .b false, .r [], .k ⟨[], [], [], [], [], 0, [], []⟩])
          (r := (.fin (.tup [(.im (.sl 1 (v3.map (eI .u8)))), (.im (eI .i64 0))]) [] 0)) (obs := [Ct.Ok PX 87 ⟨[(.im (.st [(1, (eI .i64 p0.Class)), (1, (eI .i64 p0.Tag)), (1, (eB p0.Made)), (1, (.sl 1 (p0.Body.map (eI .u8)))), (1, (.sl 5 (p0.Kids.map eSTlv)))]))], [], 0, (.im (eB v1)), [], 0⟩, (!v1) = false, Ct.Ok PX 88 ⟨[(.im (.st [(1, (eI .i64 p0.Class)), (1, (eI .i64 p0.Tag)), (1, (eB p0.Made)), (1, (.sl 1 (p0.Body.map (eI .u8)))), (1, (.sl 5 (p0.Kids.map eSTlv)))]))], [], 0, (.im (eI .i64 v2)), [], 0⟩, (decide (v2 > 16)) = false, Ct.Ok PX 89 ⟨[(.im (.st [(1, (eI .i64 p0.Class)), (1, (eI .i64 p0.Tag)), (1, (eB p0.Made)), (1, (.sl 1 (p0.Body.map (eI .u8)))), (1, (.sl 5 (p0.Kids.map eSTlv)))]))], [], 0, (.im (.sl 1 (v3.map (eI .u8)))), [], 0⟩, ((v3.map (eI .u8)).length : Int) = (v3.length : Int), (decide ((v3.length : Int) > 1048576)) = false])
          (by kernel_rfl) ⟨(f87_ok k p0 v1 h1), (not_f h2), (f88_ok k p0 v2 h3), (df h4), (f89_ok k p0 v3 h5), (len_m (eI .u8) _), (df h6), trivial⟩ (fun fn hfn => ⟨rfl, rfl, rfl⟩)
  · rw [if_neg h2] at h
    replace h := Option.some.inj h; subst h
    exact Ct.ofWalk hT hm F47 (by kernel_rfl) (n := 1000) (ds := [.r [], .r [(1, ⟨(.c false [] ⟨[], [], [], 0, (.im (eB v1)), [], 0, [], 1⟩), [], []⟩)], .r [], .b true, .r [], .k ⟨[], [], [], [], [], 0, [(0, (.s [(.n 1)]))], []⟩])
      (r := (.fin (.tup [(.im (.sl 1 [])), (.im (eI .i64 1))]) [] 0)) (obs := [Ct.Ok PX 87 ⟨[(.im (.st [(1, (eI .i64 p0.Class)), (1, (eI .i64 p0.Tag)), (1, (eB p0.Made)), (1, (.sl 1 (p0.Body.map (eI .u8)))), (1, (.sl 5 (p0.Kids.map eSTlv)))]))], [], 0, (.im (eB v1)), [], 0⟩, (!v1) = true])
      (by kernel_rfl) ⟨(f87_ok k p0 v1 h1), (not_t (vf h2)), trivial⟩ (fun fn hfn => ⟨rfl, rfl, rfl⟩)
end Go.Proofs.Tryd.E
end

section
namespace Go.Proofs.Tryd.E
open Go Go.Eng
set_option maxRecDepth 100000
set_option linter.unusedVariables false
def f19L0_S (p0 : SCrl) (x0 : (List STlv)) (x1 : (List STlv)) (x2 : Int) : S := ⟨[(1, (.ref 0 [])), (9, (.ownF 5 1)), (10, (.ownF 5 2)), (11, (.im (eI .i64 x2)))], [(0, (.box false 17 (.im (.st [(1, (.sl 2 (p0.Issuer.map eSPart))), (1, (eI .i64 p0.This)), (1, (eI .i64 p0.Next)), (1, (.sl 2 (p0.Gone.map eSGone))), (1, (.sl 1 (p0.Body.map (eI .u8)))), (12, (.st [(6, (.arr 1 (p0.Sig.R.l.map (eI .u64)))), (6, (.arr 1 (p0.Sig.S.l.map (eI .u64))))]))])))), (1, (.row 35 5 (x0.map eSTlv) 0)), (2, (.row 35 5 (x1.map eSTlv) 0))], 3⟩

def f19L0 : Nat → SCrl → (List STlv) → (List STlv) → Int → Option ((List Int) × Int)
  | 0, _, _, _, _ => none
  | k + 1, p0, x0, x1, x2 =>
    if x2 < (p0.Gone.length : Int) then (
     (rd p0.Gone x2).bind fun v1 =>
     (f45 k v1.Serial).bind fun v2 =>
     (f40 k v1.At).bind fun v3 =>
     if v2.2 = true then (
      if v3.2 = true then (
       (f46 k [v2.1, v3.1]).bind fun v4 =>
       (ap 72 x1 [(STlv.mk v4.1 v4.2.1 v4.2.2.1 [] v4.2.2.2)]).bind fun v5 =>
       f19L0 k p0 x0 v5 (IntKind.wrap .i64 (x2 + 1)))
      else (
       some ([], 1)))
     else (
      some ([], 1)))
    else (
     if (x1.length : Int) > 0 then (
      (f46 k x1).bind fun v1 =>
      (ap 72 x0 [(STlv.mk v1.1 v1.2.1 v1.2.2.1 [] v1.2.2.2)]).bind fun v2 =>
      (f46 k v2).bind fun v3 =>
      (f47 k (STlv.mk v3.1 v3.2.1 v3.2.2.1 [] v3.2.2.2)).bind fun v4 =>
      some (v4.1, v4.2))
     else (
      (f46 k x0).bind fun v1 =>
      (f47 k (STlv.mk v1.1 v1.2.1 v1.2.2.1 [] v1.2.2.2)).bind fun v2 =>
      some (v2.1, v2.2)))

def f19L0_P (k : Nat) : Prop := ∀ (fn : Func) (_ : fn.results = ([.t 2, .t 3].map Rv.var).toArray), ∀ (p0 : SCrl) (x0 : (List STlv)) (x1 : (List STlv)) (x2 : Int) (r : (List Int) × Int), f19L0 k p0 x0 x1 x2 = some r → LH PX ⟨fn, 108, 0, (.tup [(.im (.sl 1 (r.1.map (eI .u8)))), (.im (eI .i64 r.2))]), [], 0⟩ cc19_0 [.blk 0, .seq cc19_1] (f19L0_S p0 x0 x1 x2)

theorem f19L0_step (k : Nat) (ih_f19L0 : f19L0_P k) : f19L0_P (k + 1) := by
  intro fn hfn p0 x0 x1 x2 r h
  rw [f19L0] at h
  by_cases h1 : x2 < (p0.Gone.length : Int)
  · rw [if_pos h1] at h
    obtain ⟨v1, h2, h⟩ := bnd h
    obtain ⟨v2, h3, h⟩ := bnd h
    obtain ⟨v3, h4, h⟩ := bnd h
    by_cases h5 : v2.2 = true
    · rw [if_pos h5] at h
      by_cases h6 : v3.2 = true
      · rw [if_pos h6] at h
        obtain ⟨v4, h7, h⟩ := bnd h
        obtain ⟨v5, h8, h⟩ := bnd h
        exact LH.round hT hm hfn (n := 1000) (ds := [.r [(3, ⟨(.h (.int (p0.Gone.length : Int))), [], []⟩)], .b true, .r [(3, ⟨(.h (.iv (.st [(1, (.sl 1 (v1.Serial.map (eI .u8)))), (1, (eI .i64 v1.At))]))), [], []⟩), (6, ⟨(.c false [] ⟨[], [], [], 0, (.tup [(.im (.st [(1, (eI .i64 v2.1.Class)), (1, (eI .i64 v2.1.Tag)), (1, (eB v2.1.Made)), (1, (.sl 1 (v2.1.Body.map (eI .u8)))), (1, (.sl 5 (v2.1.Kids.map eSTlv)))])), (.im (eB v2.2))]), [], 0, [], 3⟩), [], []⟩)], .r [(3, ⟨(.h (.iv (.st [(1, (.sl 1 (v1.Serial.map (eI .u8)))), (1, (eI .i64 v1.At))]))), [], []⟩), (6, ⟨(.c false [] ⟨[], [], [], 0, (.tup [(.im (.st [(1, (eI .i64 v3.1.Class)), (1, (eI .i64 v3.1.Tag)), (1, (eB v3.1.Made)), (1, (.sl 1 (v3.1.Body.map (eI .u8)))), (1, (.sl 5 (v3.1.Kids.map eSTlv)))])), (.im (eB v3.2))]), [], 0, [], 4⟩), [], []⟩)], .r [(3, ⟨(.h (.gt .no)), [], []⟩), (4, ⟨(.h (.gt .no)), [], []⟩), (5, ⟨(.h .gf), [], []⟩)], .b false, .r [(4, ⟨(.c false [] ⟨[(0, 5)], [], [(0, (.e (.arr 0 ([v2.1, v3.1].map eSTlv))))], 1, (.st [(1, (.im (eI .i64 v4.1))), (1, (.im (eI .i64 v4.2.1))), (1, (.im (eB v4.2.2.1))), (1, (.im (.v (.slice none 0 0)))), (1, (.ownF 5 1))]), [(1, (.row 35 5 (v4.2.2.2.map eSTlv) 0))], 2, [(6, 1)], 7⟩), [], []⟩), (5, ⟨.a, [.ps [(7, (.s [(.s [.k, .k, .k, (.n 1)])]))]], []⟩), (6, ⟨(.h (.ivs (v5.map eSTlv))), [], []⟩)], .r [], .k ⟨[], [], [], [1, 9, 10, 11], [(0, 0), (1, 1), (2, 8)], 3, [], []⟩])
          (r := (.head cc19_0 [.blk 0, .seq cc19_1] (f19L0_S p0 x0 v5 (IntKind.wrap .i64 (x2 + 1))))) (obs := [((p0.Gone.map eSGone).length : Int) = (p0.Gone.length : Int), (decide (x2 < (p0.Gone.length : Int))) = true, 0 ≤ x2, (p0.Gone.map eSGone)[(x2).toNat]? = some (.st [(1, (.sl 1 (v1.Serial.map (eI .u8)))), (1, (eI .i64 v1.At))]), Ct.Ok PX 45 ⟨[(.im (.sl 1 (v1.Serial.map (eI .u8))))], [], 0, (.tup [(.im (.st [(1, (eI .i64 v2.1.Class)), (1, (eI .i64 v2.1.Tag)), (1, (eB v2.1.Made)), (1, (.sl 1 (v2.1.Body.map (eI .u8)))), (1, (.sl 5 (v2.1.Kids.map eSTlv)))])), (.im (eB v2.2))]), [], 0⟩, 0 ≤ x2, (p0.Gone.map eSGone)[(x2).toNat]? = some (.st [(1, (.sl 1 (v1.Serial.map (eI .u8)))), (1, (eI .i64 v1.At))]), Ct.Ok PX 40 ⟨[(.im (eI .i64 v1.At))], [], 0, (.tup [(.im (.st [(1, (eI .i64 v3.1.Class)), (1, (eI .i64 v3.1.Tag)), (1, (eB v3.1.Made)), (1, (.sl 1 (v3.1.Body.map (eI .u8)))), (1, (.sl 5 (v3.1.Kids.map eSTlv)))])), (.im (eB v3.2))]), [], 0⟩, (!v2.2) = false, (!v2.2) = false, (!v2.2) = false, (!v3.2) = false, Ct.Ok PX 46 ⟨[(.ownF 5 0)], [(0, (.row 35 5 ([v2.1, v3.1].map eSTlv) 0))], 1, (.st [(1, (.im (eI .i64 v4.1))), (1, (.im (eI .i64 v4.2.1))), (1, (.im (eB v4.2.2.1))), (1, (.im (.v (.slice none 0 0)))), (1, (.ownF 5 1))]), [(1, (.row 35 5 (v4.2.2.2.map eSTlv) 0))], 2⟩, [(.st [(1, (eI .i64 v2.1.Class)), (1, (eI .i64 v2.1.Tag)), (1, (eB v2.1.Made)), (1, (.sl 1 (v2.1.Body.map (eI .u8)))), (1, (.sl 5 (v2.1.Kids.map eSTlv)))]), (.st [(1, (eI .i64 v3.1.Class)), (1, (eI .i64 v3.1.Tag)), (1, (eB v3.1.Made)), (1, (.sl 1 (v3.1.Body.map (eI .u8)))), (1, (.sl 5 (v3.1.Kids.map eSTlv)))])] = ([v2.1, v3.1].map eSTlv), (x1.map eSTlv) ++ [(.st [(1, (eI .i64 v4.1)), (1, (eI .i64 v4.2.1)), (1, (eB v4.2.2.1)), (1, (.sl 1 [])), (1, (.sl 5 (v4.2.2.2.map eSTlv)))])] = (v5.map eSTlv), (v5.map eSTlv).length * 72 ≤ 140737488355328, (v5.map eSTlv).length ≤ 9223372036854775807])
          (by kernel_rfl) ⟨(len_m eSGone _), (dt h1), (rd_nn h2), (rd_map eSGone h2), (f45_ok k v1.Serial v2 h3), (rd_nn h2), (rd_map eSGone h2), (f40_ok k v1.At v3 h4), (not_f h5), (not_f h5), (not_f h5), (not_f h6), (f46_ok k [v2.1, v3.1] v4 h7), (show [(.st [(1, (eI .i64 v2.1.Class)), (1, (eI .i64 v2.1.Tag)), (1, (eB v2.1.Made)), (1, (.sl 1 (v2.1.Body.map (eI .u8)))), (1, (.sl 5 (v2.1.Kids.map eSTlv)))]), (.st [(1, (eI .i64 v3.1.Class)), (1, (eI .i64 v3.1.Tag)), (1, (eB v3.1.Made)), (1, (.sl 1 (v3.1.Body.map (eI .u8)))), (1, (.sl 5 (v3.1.Kids.map eSTlv)))])] = [v2.1, v3.1].map eSTlv from by simp only [List.map_cons, List.map_nil, eSTlv_eq, STlv.Class, STlv.Tag, STlv.Made, STlv.Body, STlv.Kids]), ((congr (congrArg HAppend.hAppend rfl) (show [(.st [(1, (eI .i64 v4.1)), (1, (eI .i64 v4.2.1)), (1, (eB v4.2.2.1)), (1, (.sl 1 [])), (1, (.sl 5 (v4.2.2.2.map eSTlv)))])] = [(STlv.mk v4.1 v4.2.1 v4.2.2.1 [] v4.2.2.2)].map eSTlv from by simp only [List.map_cons, List.map_nil, eSTlv_eq, STlv.Class, STlv.Tag, STlv.Made, STlv.Body, STlv.Kids])).trans (ap_map eSTlv h8)), (ap_b eSTlv h8), (ap_n eSTlv h8), trivial⟩ (ih_f19L0 fn hfn p0 x0 v5 (IntKind.wrap .i64 (x2 + 1)) _ h)
      · rw [if_neg h6] at h
        replace h := Option.some.inj h; subst h
        exact LH.round hT hm hfn (n := 1000) (ds := [.r [(3, ⟨(.h (.int (p0.Gone.length : Int))), [], []⟩)], .b true, .r [(3, ⟨(.h (.iv (.st [(1, (.sl 1 (v1.Serial.map (eI .u8)))), (1, (eI .i64 v1.At))]))), [], []⟩), (6, ⟨(.c false [] ⟨[], [], [], 0, (.tup [(.im (.st [(1, (eI .i64 v2.1.Class)), (1, (eI .i64 v2.1.Tag)), (1, (eB v2.1.Made)), (1, (.sl 1 (v2.1.Body.map (eI .u8)))), (1, (.sl 5 (v2.1.Kids.map eSTlv)))])), (.im (eB v2.2))]), [], 0, [], 3⟩), [], []⟩)], .r [(3, ⟨(.h (.iv (.st [(1, (.sl 1 (v1.Serial.map (eI .u8)))), (1, (eI .i64 v1.At))]))), [], []⟩), (6, ⟨(.c false [] ⟨[], [], [], 0, (.tup [(.im (.st [(1, (eI .i64 v3.1.Class)), (1, (eI .i64 v3.1.Tag)), (1, (eB v3.1.Made)), (1, (.sl 1 (v3.1.Body.map (eI .u8)))), (1, (.sl 5 (v3.1.Kids.map eSTlv)))])), (.im (eB v3.2))]), [], 0, [], 4⟩), [], []⟩)], .r [(3, ⟨(.h (.gt .no)), [], []⟩), (4, ⟨(.h (.gt .no)), [], []⟩), (5, ⟨(.h .gf), [], []⟩)], .b true, .r [], .k ⟨[], [], [], [], [], 0, [(0, (.s [(.n 1)]))], []⟩])
          (r := (.fin (.tup [(.im (.sl 1 [])), (.im (eI .i64 1))]) [] 0)) (obs := [((p0.Gone.map eSGone).length : Int) = (p0.Gone.length : Int), (decide (x2 < (p0.Gone.length : Int))) = true, 0 ≤ x2, (p0.Gone.map eSGone)[(x2).toNat]? = some (.st [(1, (.sl 1 (v1.Serial.map (eI .u8)))), (1, (eI .i64 v1.At))]), Ct.Ok PX 45 ⟨[(.im (.sl 1 (v1.Serial.map (eI .u8))))], [], 0, (.tup [(.im (.st [(1, (eI .i64 v2.1.Class)), (1, (eI .i64 v2.1.Tag)), (1, (eB v2.1.Made)), (1, (.sl 1 (v2.1.Body.map (eI .u8)))), (1, (.sl 5 (v2.1.Kids.map eSTlv)))])), (.im (eB v2.2))]), [], 0⟩, 0 ≤ x2, (p0.Gone.map eSGone)[(x2).toNat]? = some (.st [(1, (.sl 1 (v1.Serial.map (eI .u8)))), (1, (eI .i64 v1.At))]), Ct.Ok PX 40 ⟨[(.im (eI .i64 v1.At))], [], 0, (.tup [(.im (.st [(1, (eI .i64 v3.1.Class)), (1, (eI .i64 v3.1.Tag)), (1, (eB v3.1.Made)), (1, (.sl 1 (v3.1.Body.map (eI .u8)))), (1, (.sl 5 (v3.1.Kids.map eSTlv)))])), (.im (eB v3.2))]), [], 0⟩, (!v2.2) = false, (!v2.2) = false, (!v2.2) = false, (!v3.2) = true])
          (by kernel_rfl) ⟨(len_m eSGone _), (dt h1), (rd_nn h2), (rd_map eSGone h2), (f45_ok k v1.Serial v2 h3), (rd_nn h2), (rd_map eSGone h2), (f40_ok k v1.At v3 h4), (not_f h5), (not_f h5), (not_f h5), (not_t (vf h6)), trivial⟩ ⟨rfl, rfl, rfl⟩
    · rw [if_neg h5] at h
      replace h := Option.some.inj h; subst h
      exact LH.round hT hm hfn (n := 1000) (ds := [.r [(3, ⟨(.h (.int (p0.Gone.length : Int))), [], []⟩)], .b true, .r [(3, ⟨(.h (.iv (.st [(1, (.sl 1 (v1.Serial.map (eI .u8)))), (1, (eI .i64 v1.At))]))), [], []⟩), (6, ⟨(.c false [] ⟨[], [], [], 0, (.tup [(.im (.st [(1, (eI .i64 v2.1.Class)), (1, (eI .i64 v2.1.Tag)), (1, (eB v2.1.Made)), (1, (.sl 1 (v2.1.Body.map (eI .u8)))), (1, (.sl 5 (v2.1.Kids.map eSTlv)))])), (.im (eB v2.2))]), [], 0, [], 3⟩), [], []⟩)], .r [(3, ⟨(.h (.iv (.st [(1, (.sl 1 (v1.Serial.map (eI .u8)))), (1, (eI .i64 v1.At))]))), [], []⟩), (6, ⟨(.c false [] ⟨[], [], [], 0, (.tup [(.im (.st [(1, (eI .i64 v3.1.Class)), (1, (eI .i64 v3.1.Tag)), (1, (eB v3.1.Made)), (1, (.sl 1 (v3.1.Body.map (eI .u8)))), (1, (.sl 5 (v3.1.Kids.map eSTlv)))])), (.im (eB v3.2))]), [], 0, [], 4⟩), [], []⟩)], .r [(3, ⟨(.h .gf), [], []⟩), (4, ⟨(.h .gf), [], []⟩), (5, ⟨(.h (.gt .no)), [], []⟩)], .bc true, .r [], .k ⟨[], [], [], [], [], 0, [(0, (.s [(.n 1)]))], []⟩])
        (r := (.fin (.tup [(.im (.sl 1 [])), (.im (eI .i64 1))]) [] 0)) (obs := [((p0.Gone.map eSGone).length : Int) = (p0.Gone.length : Int), (decide (x2 < (p0.Gone.length : Int))) = true, 0 ≤ x2, (p0.Gone.map eSGone)[(x2).toNat]? = some (.st [(1, (.sl 1 (v1.Serial.map (eI .u8)))), (1, (eI .i64 v1.At))]), Ct.Ok PX 45 ⟨[(.im (.sl 1 (v1.Serial.map (eI .u8))))], [], 0, (.tup [(.im (.st [(1, (eI .i64 v2.1.Class)), (1, (eI .i64 v2.1.Tag)), (1, (eB v2.1.Made)), (1, (.sl 1 (v2.1.Body.map (eI .u8)))), (1, (.sl 5 (v2.1.Kids.map eSTlv)))])), (.im (eB v2.2))]), [], 0⟩, 0 ≤ x2, (p0.Gone.map eSGone)[(x2).toNat]? = some (.st [(1, (.sl 1 (v1.Serial.map (eI .u8)))), (1, (eI .i64 v1.At))]), Ct.Ok PX 40 ⟨[(.im (eI .i64 v1.At))], [], 0, (.tup [(.im (.st [(1, (eI .i64 v3.1.Class)), (1, (eI .i64 v3.1.Tag)), (1, (eB v3.1.Made)), (1, (.sl 1 (v3.1.Body.map (eI .u8)))), (1, (.sl 5 (v3.1.Kids.map eSTlv)))])), (.im (eB v3.2))]), [], 0⟩, (!v2.2) = !false, (!v2.2) = !false, (!v2.2) = true])
        (by kernel_rfl) ⟨(len_m eSGone _), (dt h1), (rd_nn h2), (rd_map eSGone h2), (f45_ok k v1.Serial v2 h3), (rd_nn h2), (rd_map eSGone h2), (f40_ok k v1.At v3 h4), (not_t (vf h5)), (not_t (vf h5)), (not_t (vf h5)), trivial⟩ ⟨rfl, rfl, rfl⟩
  · rw [if_neg h1] at h
    by_cases h2 : (x1.length : Int) > 0
    · rw [if_pos h2] at h
      obtain ⟨v1, h3, h⟩ := bnd h
      obtain ⟨v2, h4, h⟩ := bnd h
      obtain ⟨v3, h5, h⟩ := bnd h
      obtain ⟨v4, h6, h⟩ := bnd h
      replace h := Option.some.inj h; subst h
      exact LH.round hT hm hfn (n := 1000) (ds := [.r [(3, ⟨(.h (.int (p0.Gone.length : Int))), [], []⟩)], .b false, .r [(1, ⟨(.h (.int (x1.length : Int))), [], []⟩)], .b true, .r [(2, ⟨(.c false [] ⟨[(0, 2)], [], [], 1, (.st [(1, (.im (eI .i64 v1.1))), (1, (.im (eI .i64 v1.2.1))), (1, (.im (eB v1.2.2.1))), (1, (.im (.v (.slice none 0 0)))), (1, (.ownF 5 1))]), [(1, (.row 35 5 (v1.2.2.2.map eSTlv) 0))], 2, [(3, 1)], 4⟩), [], []⟩), (3, ⟨.a, [.ps [(4, (.s [(.s [.k, .k, .k, (.n 1)])]))]], []⟩), (4, ⟨(.h (.ivs (v2.map eSTlv))), [], []⟩)], .r [(1, ⟨(.c false [] ⟨[(0, 5)], [], [], 1, (.st [(1, (.im (eI .i64 v3.1))), (1, (.im (eI .i64 v3.2.1))), (1, (.im (eB v3.2.2.1))), (1, (.im (.v (.slice none 0 0)))), (1, (.ownF 5 1))]), [(1, (.row 35 5 (v3.2.2.2.map eSTlv) 0))], 2, [(6, 1)], 7⟩), [], []⟩), (2, ⟨(.c false [6] ⟨[], [(.s [.k, .k, .k, (.n 1)])], [], 0, (.tup [(.im (.sl 1 (v4.1.map (eI .u8)))), (.im (eI .i64 v4.2))]), [], 0, [], 7⟩), [], []⟩)], .k ⟨[], [], [], [], [], 0, [], []⟩])
        (r := (.fin (.tup [(.im (.sl 1 (v4.1.map (eI .u8)))), (.im (eI .i64 v4.2))]) [] 0)) (obs := [((p0.Gone.map eSGone).length : Int) = (p0.Gone.length : Int), (decide (x2 < (p0.Gone.length : Int))) = false, ((x1.map eSTlv).length : Int) = (x1.length : Int), (decide ((x1.length : Int) > 0)) = true, Ct.Ok PX 46 ⟨[(.ownF 5 0)], [(0, (.row 35 5 (x1.map eSTlv) 0))], 1, (.st [(1, (.im (eI .i64 v1.1))), (1, (.im (eI .i64 v1.2.1))), (1, (.im (eB v1.2.2.1))), (1, (.im (.v (.slice none 0 0)))), (1, (.ownF 5 1))]), [(1, (.row 35 5 (v1.2.2.2.map eSTlv) 0))], 2⟩, (x0.map eSTlv) ++ [(.st [(1, (eI .i64 v1.1)), (1, (eI .i64 v1.2.1)), (1, (eB v1.2.2.1)), (1, (.sl 1 [])), (1, (.sl 5 (v1.2.2.2.map eSTlv)))])] = (v2.map eSTlv), (v2.map eSTlv).length * 72 ≤ 140737488355328, (v2.map eSTlv).length ≤ 9223372036854775807, Ct.Ok PX 46 ⟨[(.ownF 5 0)], [(0, (.row 35 5 (v2.map eSTlv) 0))], 1, (.st [(1, (.im (eI .i64 v3.1))), (1, (.im (eI .i64 v3.2.1))), (1, (.im (eB v3.2.2.1))), (1, (.im (.v (.slice none 0 0)))), (1, (.ownF 5 1))]), [(1, (.row 35 5 (v3.2.2.2.map eSTlv) 0))], 2⟩, Ct.Ok PX 47 ⟨[(.im (.st [(1, (eI .i64 v3.1)), (1, (eI .i64 v3.2.1)), (1, (eB v3.2.2.1)), (1, (.sl 1 [])), (1, (.sl 5 (v3.2.2.2.map eSTlv)))]))], [], 0, (.tup [(.im (.sl 1 (v4.1.map (eI .u8)))), (.im (eI .i64 v4.2))]), [], 0⟩])
        (by kernel_rfl) ⟨(len_m eSGone _), (df h1), (len_m eSTlv _), (dt h2), (f46_ok k x1 v1 h3), ((congr (congrArg HAppend.hAppend rfl) (show [(.st [(1, (eI .i64 v1.1)), (1, (eI .i64 v1.2.1)), (1, (eB v1.2.2.1)), (1, (.sl 1 [])), (1, (.sl 5 (v1.2.2.2.map eSTlv)))])] = [(STlv.mk v1.1 v1.2.1 v1.2.2.1 [] v1.2.2.2)].map eSTlv from by simp only [List.map_cons, List.map_nil, eSTlv_eq, STlv.Class, STlv.Tag, STlv.Made, STlv.Body, STlv.Kids])).trans (ap_map eSTlv h4)), (ap_b eSTlv h4), (ap_n eSTlv h4), (f46_ok k v2 v3 h5), (f47_ok k (STlv.mk v3.1 v3.2.1 v3.2.2.1 [] v3.2.2.2) v4 h6), trivial⟩ ⟨rfl, rfl, rfl⟩
    · rw [if_neg h2] at h
      obtain ⟨v1, h3, h⟩ := bnd h
      obtain ⟨v2, h4, h⟩ := bnd h
      replace h := Option.some.inj h; subst h
      exact LH.round hT hm hfn (n := 1000) (ds := [.r [(3, ⟨(.h (.int (p0.Gone.length : Int))), [], []⟩)], .b false, .r [(1, ⟨(.h (.int (x1.length : Int))), [], []⟩)], .b false, .r [(1, ⟨(.c false [] ⟨[(0, 1)], [], [], 1, (.st [(1, (.im (eI .i64 v1.1))), (1, (.im (eI .i64 v1.2.1))), (1, (.im (eB v1.2.2.1))), (1, (.im (.v (.slice none 0 0)))), (1, (.ownF 5 1))]), [(1, (.row 35 5 (v1.2.2.2.map eSTlv) 0))], 2, [(3, 1)], 4⟩), [], []⟩), (2, ⟨(.c false [3] ⟨[], [(.s [.k, .k, .k, (.n 1)])], [], 0, (.tup [(.im (.sl 1 (v2.1.map (eI .u8)))), (.im (eI .i64 v2.2))]), [], 0, [], 4⟩), [], []⟩)], .k ⟨[], [], [], [], [], 0, [], []⟩])
        (r := (.fin (.tup [(.im (.sl 1 (v2.1.map (eI .u8)))), (.im (eI .i64 v2.2))]) [] 0)) (obs := [((p0.Gone.map eSGone).length : Int) = (p0.Gone.length : Int), (decide (x2 < (p0.Gone.length : Int))) = false, ((x1.map eSTlv).length : Int) = (x1.length : Int), (decide ((x1.length : Int) > 0)) = false, Ct.Ok PX 46 ⟨[(.ownF 5 0)], [(0, (.row 35 5 (x0.map eSTlv) 0))], 1, (.st [(1, (.im (eI .i64 v1.1))), (1, (.im (eI .i64 v1.2.1))), (1, (.im (eB v1.2.2.1))), (1, (.im (.v (.slice none 0 0)))), (1, (.ownF 5 1))]), [(1, (.row 35 5 (v1.2.2.2.map eSTlv) 0))], 2⟩, Ct.Ok PX 47 ⟨[(.im (.st [(1, (eI .i64 v1.1)), (1, (eI .i64 v1.2.1)), (1, (eB v1.2.2.1)), (1, (.sl 1 [])), (1, (.sl 5 (v1.2.2.2.map eSTlv)))]))], [], 0, (.tup [(.im (.sl 1 (v2.1.map (eI .u8)))), (.im (eI .i64 v2.2))]), [], 0⟩])
        (by kernel_rfl) ⟨(len_m eSGone _), (df h1), (len_m eSTlv _), (df h2), (f46_ok k x0 v1 h3), (f47_ok k (STlv.mk v1.1 v1.2.1 v1.2.2.1 [] v1.2.2.2) v2 h4), trivial⟩ ⟨rfl, rfl, rfl⟩

theorem f19L0_all : ∀ k, f19L0_P k
  | 0 => (by intro fn hfn _ _ _ _ r h; rw [f19L0] at h; cases h)
  | k + 1 => f19L0_step k (f19L0_all k)

theorem f19L0_ok (fn : Func) (hfn : fn.results = ([.t 2, .t 3].map Rv.var).toArray) (k : Nat) : ∀ (p0 : SCrl) (x0 : (List STlv)) (x1 : (List STlv)) (x2 : Int) (r : (List Int) × Int), f19L0 k p0 x0 x1 x2 = some r → LH PX ⟨fn, 108, 0, (.tup [(.im (.sl 1 (r.1.map (eI .u8)))), (.im (eI .i64 r.2))]), [], 0⟩ cc19_0 [.blk 0, .seq cc19_1] (f19L0_S p0 x0 x1 x2) := (f19L0_all k) fn hfn
end Go.Proofs.Tryd.E
end

section
namespace Go.Proofs.Tryd.E
open Go Go.Eng
set_option maxRecDepth 100000
set_option linter.unusedVariables false
def f83L0_S (p0 : (List Int)) (x1 : Int) : S := ⟨[(0, (.im (.sl 1 (p0.map (eI .u8))))), (4, (.im (eI .i64 x1)))], [], 0⟩

def f83L0 : Nat → (List Int) → Int → Option (ByteArray × Int)
  | 0, _, _ => none
  | k + 1, p0, x1 =>
    if x1 < (p0.length : Int) then (
     (rd p0 x1).bind fun v1 =>
     if v1 < 32 then (
      some (⟨#[]⟩, 7))
     else (
      if v1 > 126 then (
       some (⟨#[]⟩, 7))
      else (
       f83L0 k p0 (IntKind.wrap .i64 (x1 + 1)))))
    else (
     some ((bytesOf p0), 0))

def f83L0_P (k : Nat) : Prop := ∀ (fn : Func) (_ : fn.results = ([.t 2, .t 3].map Rv.var).toArray), ∀ (p0 : (List Int)) (x1 : Int) (r : ByteArray × Int), f83L0 k p0 x1 = some r → LH PX ⟨fn, 31, 0, (.tup [(.im (eStr r.1)), (.im (eI .i64 r.2))]), [], 0⟩ cc83_0 [.blk 0, .seq cc83_1] (f83L0_S p0 x1)

theorem f83L0_step (k : Nat) (ih_f83L0 : f83L0_P k) : f83L0_P (k + 1) := by
  intro fn hfn p0 x1 r h
  rw [f83L0] at h
  by_cases h1 : x1 < (p0.length : Int)
  · rw [if_pos h1] at h
    obtain ⟨v1, h2, h⟩ := bnd h
    by_cases h3 : v1 < 32
    · rw [if_pos h3] at h
      replace h := Option.some.inj h; subst h
      exact LH.round hT hm hfn (n := 1000) (ds := [.r [(2, ⟨(.h (.int (p0.length : Int))), [], []⟩)], .b true, .r [(2, ⟨(.h (.iv (eI .u8 v1))), [], []⟩), (6, ⟨(.h .gf), [], []⟩), (7, ⟨(.h .gf), [], []⟩), (8, ⟨(.h .gf), [], []⟩), (9, ⟨(.h .gf), [], []⟩), (10, ⟨(.h .gf), [], []⟩), (11, ⟨(.h (.gt .no)), [], []⟩)], .bc true, .r [], .k ⟨[], [], [], [], [], 0, [], []⟩])
        (r := (.fin (.tup [(.im (eStr ⟨#[]⟩)), (.im (eI .i64 7))]) [] 0)) (obs := [((p0.map (eI .u8)).length : Int) = (p0.length : Int), (decide (x1 < (p0.length : Int))) = true, 0 ≤ x1, (p0.map (eI .u8))[(x1).toNat]? = some (eI .u8 v1), (decide (v1 < 32)) = !false, (decide (v1 < 32)) = !false, (decide (v1 < 32)) = !false, (decide (v1 < 32)) = !false, (decide (v1 < 32)) = !false, (decide (v1 < 32)) = true])
        (by kernel_rfl) ⟨(len_m (eI .u8) _), (dt h1), (rd_nn h2), (rd_map (eI .u8) h2), (dt h3), (dt h3), (dt h3), (dt h3), (dt h3), (dt h3), trivial⟩ ⟨rfl, rfl, rfl⟩
    · rw [if_neg h3] at h
      by_cases h4 : v1 > 126
      · rw [if_pos h4] at h
        replace h := Option.some.inj h; subst h
        exact LH.round hT hm hfn (n := 1000) (ds := [.r [(2, ⟨(.h (.int (p0.length : Int))), [], []⟩)], .b true, .r [(2, ⟨(.h (.iv (eI .u8 v1))), [], []⟩), (6, ⟨(.h (.gt .no)), [], []⟩), (7, ⟨(.h (.gt .no)), [], []⟩), (8, ⟨(.h (.gt (.iv (eI .u8 v1)))), [], []⟩), (9, ⟨(.h (.gt .no)), [], []⟩), (10, ⟨(.h (.gt .no)), [], []⟩), (11, ⟨(.h .gf), [], []⟩)], .b true, .r [], .k ⟨[], [], [], [], [], 0, [], []⟩])
          (r := (.fin (.tup [(.im (eStr ⟨#[]⟩)), (.im (eI .i64 7))]) [] 0)) (obs := [((p0.map (eI .u8)).length : Int) = (p0.length : Int), (decide (x1 < (p0.length : Int))) = true, 0 ≤ x1, (p0.map (eI .u8))[(x1).toNat]? = some (eI .u8 v1), (decide (v1 < 32)) = false, (decide (v1 < 32)) = false, (decide (v1 < 32)) = false, 0 ≤ x1, (p0.map (eI .u8))[(x1).toNat]? = some (eI .u8 v1), (decide (v1 < 32)) = false, (decide (v1 < 32)) = false, (decide (v1 < 32)) = false, (decide (v1 > 126)) = true])
          (by kernel_rfl) ⟨(len_m (eI .u8) _), (dt h1), (rd_nn h2), (rd_map (eI .u8) h2), (df h3), (df h3), (df h3), (rd_nn h2), (rd_map (eI .u8) h2), (df h3), (df h3), (df h3), (dt h4), trivial⟩ ⟨rfl, rfl, rfl⟩
      · rw [if_neg h4] at h
        exact LH.round hT hm hfn (n := 1000) (ds := [.r [(2, ⟨(.h (.int (p0.length : Int))), [], []⟩)], .b true, .r [(2, ⟨(.h (.iv (eI .u8 v1))), [], []⟩), (6, ⟨(.h (.gt .no)), [], []⟩), (7, ⟨(.h (.gt .no)), [], []⟩), (8, ⟨(.h (.gt (.iv (eI .u8 v1)))), [], []⟩), (9, ⟨(.h (.gt .no)), [], []⟩), (10, ⟨(.h (.gt .no)), [], []⟩), (11, ⟨(.h .gf), [], []⟩)], .b false, .r [], .k ⟨[], [], [], [0, 4], [], 0, [], []⟩])
          (r := (.head cc83_0 [.blk 0, .seq cc83_1] (f83L0_S p0 (IntKind.wrap .i64 (x1 + 1))))) (obs := [((p0.map (eI .u8)).length : Int) = (p0.length : Int), (decide (x1 < (p0.length : Int))) = true, 0 ≤ x1, (p0.map (eI .u8))[(x1).toNat]? = some (eI .u8 v1), (decide (v1 < 32)) = false, (decide (v1 < 32)) = false, (decide (v1 < 32)) = false, 0 ≤ x1, (p0.map (eI .u8))[(x1).toNat]? = some (eI .u8 v1), (decide (v1 < 32)) = false, (decide (v1 < 32)) = false, (decide (v1 < 32)) = false, (decide (v1 > 126)) = false])
          (by kernel_rfl) ⟨(len_m (eI .u8) _), (dt h1), (rd_nn h2), (rd_map (eI .u8) h2), (df h3), (df h3), (df h3), (rd_nn h2), (rd_map (eI .u8) h2), (df h3), (df h3), (df h3), (df h4), trivial⟩ (ih_f83L0 fn hfn p0 (IntKind.wrap .i64 (x1 + 1)) _ h)
  · rw [if_neg h1] at h
    replace h := Option.some.inj h; subst h
    exact LH.round hT hm hfn (n := 1000) (ds := [.r [(2, ⟨(.h (.int (p0.length : Int))), [], []⟩)], .b false, .r [(1, ⟨(.h (.ints p0)), [], []⟩)], .k ⟨[], [], [], [], [], 0, [], []⟩])
      (r := (.fin (.tup [(.im (eStr (bytesOf p0))), (.im (eI .i64 0))]) [] 0)) (obs := [((p0.map (eI .u8)).length : Int) = (p0.length : Int), (decide (x1 < (p0.length : Int))) = false, (p0.map (eI .u8)) = (p0.map fun n => IV.v (.int .u8 n))])
      (by kernel_rfl) ⟨(len_m (eI .u8) _), (df h1), rfl, trivial⟩ ⟨rfl, rfl, rfl⟩

theorem f83L0_all : ∀ k, f83L0_P k
  | 0 => (by intro fn hfn _ _ r h; rw [f83L0] at h; cases h)
  | k + 1 => f83L0_step k (f83L0_all k)

theorem f83L0_ok (fn : Func) (hfn : fn.results = ([.t 2, .t 3].map Rv.var).toArray) (k : Nat) : ∀ (p0 : (List Int)) (x1 : Int) (r : ByteArray × Int), f83L0 k p0 x1 = some r → LH PX ⟨fn, 31, 0, (.tup [(.im (eStr r.1)), (.im (eI .i64 r.2))]), [], 0⟩ cc83_0 [.blk 0, .seq cc83_1] (f83L0_S p0 x1) := (f83L0_all k) fn hfn

def f83 (k : Nat) (p0 : (List Int)) : Option (ByteArray × Int) :=
  if (p0.length : Int) > 64 then (
   some (⟨#[]⟩, 2))
  else (
   if (p0.length : Int) = 0 then (
    some (⟨#[]⟩, 7))
   else (
    f83L0 k p0 0))

theorem f83_ok (k : Nat) : ∀ (p0 : (List Int)) (r : ByteArray × Int), f83 k p0 = some r → Ct.Ok PX 83 ⟨[(.im (.sl 1 (p0.map (eI .u8))))], [], 0, (.tup [(.im (eStr r.1)), (.im (eI .i64 r.2))]), [], 0⟩ := by
  intro p0 r h
  unfold f83 at h
  by_cases h1 : (p0.length : Int) > 64
  · rw [if_pos h1] at h
    replace h := Option.some.inj h; subst h
    exact Ct.ofWalk hT hm F83 (by kernel_rfl) (n := 1000) (ds := [.r [], .r [(1, ⟨(.h (.int (p0.length : Int))), [], []⟩)], .b true, .r [], .k ⟨[], [], [], [], [], 0, [], []⟩])
      (r := (.fin (.tup [(.im (eStr ⟨#[]⟩)), (.im (eI .i64 2))]) [] 0)) (obs := [((p0.map (eI .u8)).length : Int) = (p0.length : Int), (decide ((p0.length : Int) > 64)) = true])
      (by kernel_rfl) ⟨(len_m (eI .u8) _), (dt h1), trivial⟩ (fun fn hfn => ⟨rfl, rfl, rfl⟩)
  · rw [if_neg h1] at h
    by_cases h2 : (p0.length : Int) = 0
    · rw [if_pos h2] at h
      replace h := Option.some.inj h; subst h
      exact Ct.ofWalk hT hm F83 (by kernel_rfl) (n := 1000) (ds := [.r [], .r [(1, ⟨(.h (.int (p0.length : Int))), [], []⟩)], .b false, .r [(1, ⟨(.h (.int (p0.length : Int))), [], []⟩)], .b true, .r [], .k ⟨[], [], [], [], [], 0, [], []⟩])
        (r := (.fin (.tup [(.im (eStr ⟨#[]⟩)), (.im (eI .i64 7))]) [] 0)) (obs := [((p0.map (eI .u8)).length : Int) = (p0.length : Int), (decide ((p0.length : Int) > 64)) = false, ((p0.map (eI .u8)).length : Int) = (p0.length : Int), ((p0.length : Int) == 0) = true])
        (by kernel_rfl) ⟨(len_m (eI .u8) _), (df h1), (len_m (eI .u8) _), (bt h2), trivial⟩ (fun fn hfn => ⟨rfl, rfl, rfl⟩)
    · rw [if_neg h2] at h
      exact Ct.ofWalk hT hm F83 (by kernel_rfl) (n := 1000) (ds := [.r [], .r [(1, ⟨(.h (.int (p0.length : Int))), [], []⟩)], .b false, .r [(1, ⟨(.h (.int (p0.length : Int))), [], []⟩)], .b false, .r [], .k ⟨[], [], [], [0, 4], [], 0, [], []⟩])
        (r := (.head cc83_0 [.blk 0, .seq cc83_1] (f83L0_S p0 0))) (obs := [((p0.map (eI .u8)).length : Int) = (p0.length : Int), (decide ((p0.length : Int) > 64)) = false, ((p0.map (eI .u8)).length : Int) = (p0.length : Int), ((p0.length : Int) == 0) = false])
        (by kernel_rfl) ⟨(len_m (eI .u8) _), (df h1), (len_m (eI .u8) _), (bf h2), trivial⟩ (fun fn hfn => f83L0_ok fn hfn k p0 0 _ h)

def f84 (k : Nat) (p0 : Int) : Option (Bool) :=
  if p0 = 3 then (
   some true)
  else (
   if p0 = 6 then (
    some true)
   else (
    if p0 = 10 then (
     some true)
    else (
     some (p0 == 11))))

theorem f84_ok (k : Nat) : ∀ (p0 : Int) (r : Bool), f84 k p0 = some r → Ct.Ok PX 84 ⟨[(.im (eI .i64 p0))], [], 0, (.im (eB r)), [], 0⟩ := by
  intro p0 r h
  unfold f84 at h
  by_cases h1 : p0 = 3
  · rw [if_pos h1] at h
    replace h := Option.some.inj h; subst h
    exact Ct.ofWalk hT hm F84 (by kernel_rfl) (n := 1000) (ds := [.r [], .r [(3, ⟨(.h .gf), [], []⟩), (4, ⟨(.h .gf), [], []⟩), (5, ⟨(.h (.gt .no)), [], []⟩)], .k ⟨[], [], [], [], [], 0, [], []⟩])
      (r := (.fin (.im (eB true)) [] 0)) (obs := [(p0 == 3) = !false, (p0 == 3) = !false, (p0 == 3) = true])
      (by kernel_rfl) ⟨(bt h1), (bt h1), (bt h1), trivial⟩ (fun fn hfn => ⟨rfl, rfl, rfl⟩)
  · rw [if_neg h1] at h
    by_cases h2 : p0 = 6
    · rw [if_pos h2] at h
      replace h := Option.some.inj h; subst h
      exact Ct.ofWalk hT hm F84 (by kernel_rfl) (n := 1000) (ds := [.r [], .r [(3, ⟨(.h (.gt .no)), [], []⟩), (4, ⟨(.h (.gt .no)), [], []⟩), (5, ⟨(.h .gf), [], []⟩), (7, ⟨(.h .gf), [], []⟩), (8, ⟨(.h .gf), [], []⟩), (9, ⟨(.h (.gt .no)), [], []⟩)], .k ⟨[], [], [], [], [], 0, [], []⟩])
        (r := (.fin (.im (eB true)) [] 0)) (obs := [(p0 == 3) = false, (p0 == 3) = false, (p0 == 3) = false, (p0 == 6) = !false, (p0 == 6) = !false, (p0 == 6) = true])
        (by kernel_rfl) ⟨(bf h1), (bf h1), (bf h1), (bt h2), (bt h2), (bt h2), trivial⟩ (fun fn hfn => ⟨rfl, rfl, rfl⟩)
    · rw [if_neg h2] at h
      by_cases h3 : p0 = 10
      · rw [if_pos h3] at h
        replace h := Option.some.inj h; subst h
        exact Ct.ofWalk hT hm F84 (by kernel_rfl) (n := 1000) (ds := [.r [], .r [(3, ⟨(.h (.gt .no)), [], []⟩), (4, ⟨(.h (.gt .no)), [], []⟩), (5, ⟨(.h .gf), [], []⟩), (7, ⟨(.h (.gt .no)), [], []⟩), (8, ⟨(.h (.gt .no)), [], []⟩), (9, ⟨(.h .gf), [], []⟩), (11, ⟨(.h .gf), [], []⟩), (12, ⟨(.h .gf), [], []⟩), (13, ⟨(.h (.gt .no)), [], []⟩)], .k ⟨[], [], [], [], [], 0, [], []⟩])
          (r := (.fin (.im (eB true)) [] 0)) (obs := [(p0 == 3) = false, (p0 == 3) = false, (p0 == 3) = false, (p0 == 6) = false, (p0 == 6) = false, (p0 == 6) = false, (p0 == 10) = !false, (p0 == 10) = !false, (p0 == 10) = true])
          (by kernel_rfl) ⟨(bf h1), (bf h1), (bf h1), (bf h2), (bf h2), (bf h2), (bt h3), (bt h3), (bt h3), trivial⟩ (fun fn hfn => ⟨rfl, rfl, rfl⟩)
      · rw [if_neg h3] at h
        replace h := Option.some.inj h; subst h
        exact Ct.ofWalk hT hm F84 (by kernel_rfl) (n := 1000) (ds := [.r [], .r [(3, ⟨(.h (.gt .no)), [], []⟩), (4, ⟨(.h (.gt .no)), [], []⟩), (5, ⟨(.h .gf), [], []⟩), (7, ⟨(.h (.gt .no)), [], []⟩), (8, ⟨(.h (.gt .no)), [], []⟩), (9, ⟨(.h .gf), [], []⟩), (11, ⟨(.h (.gt .no)), [], []⟩), (12, ⟨(.h (.gt .no)), [], []⟩), (13, ⟨(.h .gf), [], []⟩)], .k ⟨[], [], [], [], [], 0, [], []⟩])
          (r := (.fin (.im (eB (p0 == 11))) [] 0)) (obs := [(p0 == 3) = false, (p0 == 3) = false, (p0 == 3) = false, (p0 == 6) = false, (p0 == 6) = false, (p0 == 6) = false, (p0 == 10) = false, (p0 == 10) = false, (p0 == 10) = false])
          (by kernel_rfl) ⟨(bf h1), (bf h1), (bf h1), (bf h2), (bf h2), (bf h2), (bf h3), (bf h3), (bf h3), trivial⟩ (fun fn hfn => ⟨rfl, rfl, rfl⟩)
end Go.Proofs.Tryd.E
end

section
namespace Go.Proofs.Tryd.E
open Go Go.Eng
set_option maxRecDepth 100000
set_option linter.unusedVariables false
def f41L0_S (p0 : (List SPart)) (x1 : Int) : S := ⟨[(0, (.im (.sl 2 (p0.map eSPart)))), (3, (.im (eI .i64 x1)))], [], 0⟩

def f41L0 : Nat → (List SPart) → Int → Option (Bool)
  | 0, _, _ => none
  | k + 1, p0, x1 =>
    if x1 < (p0.length : Int) then (
     (rd p0 x1).bind fun v1 =>
     (f83 k (ints v1.Text)).bind fun v2 =>
     (f84 k v1.Kind).bind fun v3 =>
     if v3 = true then (
      if v2.2 = 0 then (
       f41L0 k p0 (IntKind.wrap .i64 (x1 + 1)))
      else (
       some false))
     else (
      some false))
    else (
     some (decide ((p0.length : Int) ≤ 8)))

def f41L0_P (k : Nat) : Prop := ∀ (fn : Func) (_ : fn.results = ([.t 2].map Rv.var).toArray), ∀ (p0 : (List SPart)) (x1 : Int) (r : Bool), f41L0 k p0 x1 = some r → LH PX ⟨fn, 38, 0, (.im (eB r)), [], 0⟩ cc41_0 [.blk 0, .seq cc41_1] (f41L0_S p0 x1)

theorem f41L0_step (k : Nat) (ih_f41L0 : f41L0_P k) : f41L0_P (k + 1) := by
  intro fn hfn p0 x1 r h
  rw [f41L0] at h
  by_cases h1 : x1 < (p0.length : Int)
  · rw [if_pos h1] at h
    obtain ⟨v1, h2, h⟩ := bnd h
    obtain ⟨v2, h3, h⟩ := bnd h
    obtain ⟨v3, h4, h⟩ := bnd h
    by_cases h5 : v3 = true
    · rw [if_pos h5] at h
      by_cases h6 : v2.2 = 0
      · rw [if_pos h6] at h
        exact LH.round hT hm hfn (n := 1000) (ds := [.r [(2, ⟨(.h (.int (p0.length : Int))), [], []⟩)], .b true, .r [(2, ⟨(.h (.iv (.st [(1, (eI .i64 v1.Kind)), (1, (eStr v1.Text))]))), [], []⟩), (5, ⟨(.h (.ints (ints v1.Text))), [], []⟩), (6, ⟨(.c false [] ⟨[], [], [], 0, (.tup [(.im (eStr v2.1)), (.im (eI .i64 v2.2))]), [], 0, [], 0⟩), [], []⟩)], .r [(2, ⟨(.h (.iv (.st [(1, (eI .i64 v1.Kind)), (1, (eStr v1.Text))]))), [], []⟩), (5, ⟨(.c false [] ⟨[], [], [], 0, (.im (eB v3)), [], 0, [], 0⟩), [], []⟩)], .r [(3, ⟨(.h (.gt .no)), [], []⟩), (4, ⟨(.h (.gt .no)), [], []⟩), (5, ⟨(.h .gf), [], []⟩)], .b false, .r [], .k ⟨[], [], [], [0, 3], [], 0, [], []⟩])
          (r := (.head cc41_0 [.blk 0, .seq cc41_1] (f41L0_S p0 (IntKind.wrap .i64 (x1 + 1))))) (obs := [((p0.map eSPart).length : Int) = (p0.length : Int), (decide (x1 < (p0.length : Int))) = true, 0 ≤ x1, (p0.map eSPart)[(x1).toNat]? = some (.st [(1, (eI .i64 v1.Kind)), (1, (eStr v1.Text))]), bytesOf (ints v1.Text) = v1.Text, ∀ n ∈ ints v1.Text, 0 ≤ n ∧ n < 256, Ct.Ok PX 83 ⟨[(.im (.sl 1 ((ints v1.Text).map (eI .u8))))], [], 0, (.tup [(.im (eStr v2.1)), (.im (eI .i64 v2.2))]), [], 0⟩, 0 ≤ x1, (p0.map eSPart)[(x1).toNat]? = some (.st [(1, (eI .i64 v1.Kind)), (1, (eStr v1.Text))]), Ct.Ok PX 84 ⟨[(.im (eI .i64 v1.Kind))], [], 0, (.im (eB v3)), [], 0⟩, (!v3) = false, (!v3) = false, (!v3) = false, (v2.2 != 0) = false])
          (by kernel_rfl) ⟨(len_m eSPart _), (dt h1), (rd_nn h2), (rd_map eSPart h2), (ints_ok _), (ints_rng _), (f83_ok k (ints v1.Text) v2 h3), (rd_nn h2), (rd_map eSPart h2), (f84_ok k v1.Kind v3 h4), (not_f h5), (not_f h5), (not_f h5), (nf h6), trivial⟩ (ih_f41L0 fn hfn p0 (IntKind.wrap .i64 (x1 + 1)) _ h)
      · rw [if_neg h6] at h
        replace h := Option.some.inj h; subst h
        exact LH.round hT hm hfn (n := 1000) (ds := [.r [(2, ⟨(.h (.int (p0.length : Int))), [], []⟩)], .b true, .r [(2, ⟨(.h (.iv (.st [(1, (eI .i64 v1.Kind)), (1, (eStr v1.Text))]))), [], []⟩), (5, ⟨(.h (.ints (ints v1.Text))), [], []⟩), (6, ⟨(.c false [] ⟨[], [], [], 0, (.tup [(.im (eStr v2.1)), (.im (eI .i64 v2.2))]), [], 0, [], 0⟩), [], []⟩)], .r [(2, ⟨(.h (.iv (.st [(1, (eI .i64 v1.Kind)), (1, (eStr v1.Text))]))), [], []⟩), (5, ⟨(.c false [] ⟨[], [], [], 0, (.im (eB v3)), [], 0, [], 0⟩), [], []⟩)], .r [(3, ⟨(.h (.gt .no)), [], []⟩), (4, ⟨(.h (.gt .no)), [], []⟩), (5, ⟨(.h .gf), [], []⟩)], .b true, .r [], .k ⟨[], [], [], [], [], 0, [], []⟩])
          (r := (.fin (.im (eB false)) [] 0)) (obs := [((p0.map eSPart).length : Int) = (p0.length : Int), (decide (x1 < (p0.length : Int))) = true, 0 ≤ x1, (p0.map eSPart)[(x1).toNat]? = some (.st [(1, (eI .i64 v1.Kind)), (1, (eStr v1.Text))]), bytesOf (ints v1.Text) = v1.Text, ∀ n ∈ ints v1.Text, 0 ≤ n ∧ n < 256, Ct.Ok PX 83 ⟨[(.im (.sl 1 ((ints v1.Text).map (eI .u8))))], [], 0, (.tup [(.im (eStr v2.1)), (.im (eI .i64 v2.2))]), [], 0⟩, 0 ≤ x1, (p0.map eSPart)[(x1).toNat]? = some (.st [(1, (eI .i64 v1.Kind)), (1, (eStr v1.Text))]), Ct.Ok PX 84 ⟨[(.im (eI .i64 v1.Kind))], [], 0, (.im (eB v3)), [], 0⟩, (!v3) = false, (!v3) = false, (!v3) = false, (v2.2 != 0) = true])
          (by kernel_rfl) ⟨(len_m eSPart _), (dt h1), (rd_nn h2), (rd_map eSPart h2), (ints_ok _), (ints_rng _), (f83_ok k (ints v1.Text) v2 h3), (rd_nn h2), (rd_map eSPart h2), (f84_ok k v1.Kind v3 h4), (not_f h5), (not_f h5), (not_f h5), (nt h6), trivial⟩ ⟨rfl, rfl, rfl⟩
    · rw [if_neg h5] at h
      replace h := Option.some.inj h; subst h
      exact LH.round hT hm hfn (n := 1000) (ds := [.r [(2, ⟨(.h (.int (p0.length : Int))), [], []⟩)], .b true, .r [(2, ⟨(.h (.iv (.st [(1, (eI .i64 v1.Kind)), (1, (eStr v1.Text))]))), [], []⟩), (5, ⟨(.h (.ints (ints v1.Text))), [], []⟩), (6, ⟨(.c false [] ⟨[], [], [], 0, (.tup [(.im (eStr v2.1)), (.im (eI .i64 v2.2))]), [], 0, [], 0⟩), [], []⟩)], .r [(2, ⟨(.h (.iv (.st [(1, (eI .i64 v1.Kind)), (1, (eStr v1.Text))]))), [], []⟩), (5, ⟨(.c false [] ⟨[], [], [], 0, (.im (eB v3)), [], 0, [], 0⟩), [], []⟩)], .r [(3, ⟨(.h .gf), [], []⟩), (4, ⟨(.h .gf), [], []⟩), (5, ⟨(.h (.gt .no)), [], []⟩)], .bc true, .r [], .k ⟨[], [], [], [], [], 0, [], []⟩])
        (r := (.fin (.im (eB false)) [] 0)) (obs := [((p0.map eSPart).length : Int) = (p0.length : Int), (decide (x1 < (p0.length : Int))) = true, 0 ≤ x1, (p0.map eSPart)[(x1).toNat]? = some (.st [(1, (eI .i64 v1.Kind)), (1, (eStr v1.Text))]), bytesOf (ints v1.Text) = v1.Text, ∀ n ∈ ints v1.Text, 0 ≤ n ∧ n < 256, Ct.Ok PX 83 ⟨[(.im (.sl 1 ((ints v1.Text).map (eI .u8))))], [], 0, (.tup [(.im (eStr v2.1)), (.im (eI .i64 v2.2))]), [], 0⟩, 0 ≤ x1, (p0.map eSPart)[(x1).toNat]? = some (.st [(1, (eI .i64 v1.Kind)), (1, (eStr v1.Text))]), Ct.Ok PX 84 ⟨[(.im (eI .i64 v1.Kind))], [], 0, (.im (eB v3)), [], 0⟩, (!v3) = !false, (!v3) = !false, (!v3) = true])
        (by kernel_rfl) ⟨(len_m eSPart _), (dt h1), (rd_nn h2), (rd_map eSPart h2), (ints_ok _), (ints_rng _), (f83_ok k (ints v1.Text) v2 h3), (rd_nn h2), (rd_map eSPart h2), (f84_ok k v1.Kind v3 h4), (not_t (vf h5)), (not_t (vf h5)), (not_t (vf h5)), trivial⟩ ⟨rfl, rfl, rfl⟩
  · rw [if_neg h1] at h
    replace h := Option.some.inj h; subst h
    exact LH.round hT hm hfn (n := 1000) (ds := [.r [(2, ⟨(.h (.int (p0.length : Int))), [], []⟩)], .b false, .r [(1, ⟨(.h (.int (p0.length : Int))), [], []⟩)], .k ⟨[], [], [], [], [], 0, [], []⟩])
      (r := (.fin (.im (eB (decide ((p0.length : Int) ≤ 8)))) [] 0)) (obs := [((p0.map eSPart).length : Int) = (p0.length : Int), (decide (x1 < (p0.length : Int))) = false, ((p0.map eSPart).length : Int) = (p0.length : Int)])
      (by kernel_rfl) ⟨(len_m eSPart _), (df h1), (len_m eSPart _), trivial⟩ ⟨rfl, rfl, rfl⟩

theorem f41L0_all : ∀ k, f41L0_P k
  | 0 => (by intro fn hfn _ _ r h; rw [f41L0] at h; cases h)
  | k + 1 => f41L0_step k (f41L0_all k)

theorem f41L0_ok (fn : Func) (hfn : fn.results = ([.t 2].map Rv.var).toArray) (k : Nat) : ∀ (p0 : (List SPart)) (x1 : Int) (r : Bool), f41L0 k p0 x1 = some r → LH PX ⟨fn, 38, 0, (.im (eB r)), [], 0⟩ cc41_0 [.blk 0, .seq cc41_1] (f41L0_S p0 x1) := (f41L0_all k) fn hfn

def f41 (k : Nat) (p0 : (List SPart)) : Option (Bool) :=
  f41L0 k p0 0

theorem f41_ok (k : Nat) : ∀ (p0 : (List SPart)) (r : Bool), f41 k p0 = some r → Ct.Ok PX 41 ⟨[(.im (.sl 2 (p0.map eSPart)))], [], 0, (.im (eB r)), [], 0⟩ := by
  intro p0 r h
  unfold f41 at h
  exact Ct.ofWalk hT hm F41 (by kernel_rfl) (n := 1000) (ds := [.r [], .r [], .k ⟨[], [], [], [0, 3], [], 0, [], []⟩])
    (r := (.head cc41_0 [.blk 0, .seq cc41_1] (f41L0_S p0 0))) (obs := [])
    (by kernel_rfl) trivial (fun fn hfn => f41L0_ok fn hfn k p0 0 _ h)

def f42 (k : Nat) : Option (STlv) :=
  some (STlv.mk 0 2 false [1] [])

theorem f42_ok (k : Nat) : ∀  (r : STlv), f42 k = some r → Ct.Ok PX 42 ⟨[], [], 0, (.im (.st [(1, (eI .i64 r.Class)), (1, (eI .i64 r.Tag)), (1, (eB r.Made)), (1, (.sl 1 (r.Body.map (eI .u8)))), (1, (.sl 5 (r.Kids.map eSTlv)))])), [], 0⟩ := by
  intro r h
  unfold f42 at h
  replace h := Option.some.inj h; subst h
  exact Ct.ofWalk hT hm F42 (by kernel_rfl) (n := 1000) (ds := [.r [], .r [], .k ⟨[], [], [1], [], [], 0, [(0, (.s [.k, .k, .k, .k, (.n 5)]))], []⟩])
    (r := (.fin (.im (.st [(1, (eI .i64 0)), (1, (eI .i64 2)), (1, (eB false)), (1, (.sl 1 [(eI .u8 1)])), (1, (.sl 5 []))])) [] 0)) (obs := [])
    (by kernel_rfl) trivial (fun fn hfn => ⟨rfl, rfl, rfl⟩)
end Go.Proofs.Tryd.E
end

section
namespace Go.Proofs.Tryd.E
open Go Go.Eng
set_option maxRecDepth 100000
set_option linter.unusedVariables false
def f130L1_S (p0 : (List Int)) (x1 : (List Int)) (x2 : Int) : S := ⟨[(0, (.im (.sl 1 (p0.map (eI .u64))))), (5, (.ownF 1 0)), (6, (.im (eI .i64 x2)))], [(0, (.row 5 1 (x1.map (eI .u8)) 0))], 1⟩

def f130L2_S (p0 : (List Int)) (x1 : (List Int)) (x2 : Int) (x3 : Int) (x4 : (List Int)) : S := ⟨[(0, (.im (.sl 1 (p0.map (eI .u64))))), (5, (.ownF 1 0)), (6, (.im (eI .i64 x2))), (7, (.im (eI .u64 x3))), (8, (.ownF 1 1))], [(0, (.row 5 1 (x1.map (eI .u8)) 0)), (1, (.row 5 1 (x4.map (eI .u8)) 0))], 2⟩

mutual
def f130L1 : Nat → (List Int) → (List Int) → Int → Option ((List Int) × Int)
  | 0, _, _, _ => none
  | k + 1, p0, x1, x2 =>
    if x2 < (p0.length : Int) then (
     (rd p0 x2).bind fun v1 =>
     if x2 = 1 then (
      (rd p0 0).bind fun v2 =>
      f130L2 k p0 x1 x2 (IntKind.wrap .u64 (Int.tdiv (IntKind.wrap .u64 (v1 + (IntKind.wrap .u64 (40 * v2)))) 128)) [(IntKind.wrap .u8 (Int.tmod (IntKind.wrap .u64 (v1 + (IntKind.wrap .u64 (40 * v2)))) 128))])
     else (
      f130L2 k p0 x1 x2 (IntKind.wrap .u64 (Int.tdiv v1 128)) [(IntKind.wrap .u8 (Int.tmod v1 128))]))
    else (
     some (x1, 0))
def f130L2 : Nat → (List Int) → (List Int) → Int → Int → (List Int) → Option ((List Int) × Int)
  | 0, _, _, _, _, _ => none
  | k + 1, p0, x1, x2, x3, x4 =>
    if x3 > 0 then (
     (ap 1 [(IntKind.wrap .u8 (IntKind.wrap .u64 (128 + (Int.tmod x3 128))))] x4).bind fun v1 =>
     f130L2 k p0 x1 x2 (IntKind.wrap .u64 (Int.tdiv x3 128)) v1)
    else (
     (ap 1 x1 x4).bind fun v1 =>
     f130L1 k p0 v1 (IntKind.wrap .i64 (x2 + 1)))
end

def f130L1_P (k : Nat) : Prop := ∀ (fn : Func) (_ : fn.results = ([.t 2, .t 3].map Rv.var).toArray), ∀ (p0 : (List Int)) (x1 : (List Int)) (x2 : Int) (r : (List Int) × Int), f130L1 k p0 x1 x2 = some r → LH PX ⟨fn, 85, 0, (.tup [(.im (.sl 1 (r.1.map (eI .u8)))), (.im (eI .i64 r.2))]), [], 0⟩ cc130_2 [.blk 2, .seq cc130_3] (f130L1_S p0 x1 x2)

def f130L2_P (k : Nat) : Prop := ∀ (fn : Func) (_ : fn.results = ([.t 2, .t 3].map Rv.var).toArray), ∀ (p0 : (List Int)) (x1 : (List Int)) (x2 : Int) (x3 : Int) (x4 : (List Int)) (r : (List Int) × Int), f130L2 k p0 x1 x2 x3 x4 = some r → LH PX ⟨fn, 85, 0, (.tup [(.im (.sl 1 (r.1.map (eI .u8)))), (.im (eI .i64 r.2))]), [], 0⟩ cc130_4 [.blk 4, .seq cc130_5, .blk 3, .seq cc130_6, .loop cc130_2, .blk 2, .seq cc130_3] (f130L2_S p0 x1 x2 x3 x4)

theorem f130L1_step (k : Nat) (ih_f130L1 : f130L1_P k) (ih_f130L2 : f130L2_P k) : f130L1_P (k + 1) := by
  intro fn hfn p0 x1 x2 r h
  rw [f130L1] at h
  by_cases h1 : x2 < (p0.length : Int)
  · rw [if_pos h1] at h
    obtain ⟨v1, h2, h⟩ := bnd h
    by_cases h3 : x2 = 1
    · rw [if_pos h3] at h
      obtain ⟨v2, h4, h⟩ := bnd h
      exact LH.round hT hm hfn (n := 1000) (ds := [.r [(2, ⟨(.h (.int (p0.length : Int))), [], []⟩)], .b true, .r [(2, ⟨(.h (.iv (eI .u64 v1))), [], []⟩)], .r [], .b true, .r [(2, ⟨(.h (.iv (eI .u64 v2))), [], []⟩)], .r [], .r [], .k ⟨[], [], [], [0, 5, 6, 7, 8], [(0, 0), (1, 1)], 2, [], []⟩])
        (r := (.head cc130_4 [.blk 4, .seq cc130_5, .blk 3, .seq cc130_6, .loop cc130_2, .blk 2, .seq cc130_3] (f130L2_S p0 x1 x2 (IntKind.wrap .u64 (Int.tdiv (IntKind.wrap .u64 (v1 + (IntKind.wrap .u64 (40 * v2)))) 128)) [(IntKind.wrap .u8 (Int.tmod (IntKind.wrap .u64 (v1 + (IntKind.wrap .u64 (40 * v2)))) 128))]))) (obs := [((p0.map (eI .u64)).length : Int) = (p0.length : Int), (decide (x2 < (p0.length : Int))) = true, 0 ≤ x2, (p0.map (eI .u64))[(x2).toNat]? = some (eI .u64 v1), (x2 == 1) = true, 0 ≤ 0, (p0.map (eI .u64))[0]? = some (eI .u64 v2)])
        (by kernel_rfl) ⟨(len_m (eI .u64) _), (dt h1), (rd_nn h2), (rd_map (eI .u64) h2), (bt h3), (rd_nn h4), (rd_map (eI .u64) h4), trivial⟩ (ih_f130L2 fn hfn p0 x1 x2 (IntKind.wrap .u64 (Int.tdiv (IntKind.wrap .u64 (v1 + (IntKind.wrap .u64 (40 * v2)))) 128)) [(IntKind.wrap .u8 (Int.tmod (IntKind.wrap .u64 (v1 + (IntKind.wrap .u64 (40 * v2)))) 128))] _ h)
    · rw [if_neg h3] at h
      exact LH.round hT hm hfn (n := 1000) (ds := [.r [(2, ⟨(.h (.int (p0.length : Int))), [], []⟩)], .b true, .r [(2, ⟨(.h (.iv (eI .u64 v1))), [], []⟩)], .r [], .b false, .r [], .r [], .k ⟨[], [], [], [0, 5, 6, 7, 8], [(0, 0), (1, 1)], 2, [], []⟩])
        (r := (.head cc130_4 [.blk 4, .seq cc130_5, .blk 3, .seq cc130_6, .loop cc130_2, .blk 2, .seq cc130_3] (f130L2_S p0 x1 x2 (IntKind.wrap .u64 (Int.tdiv v1 128)) [(IntKind.wrap .u8 (Int.tmod v1 128))]))) (obs := [((p0.map (eI .u64)).length : Int) = (p0.length : Int), (decide (x2 < (p0.length : Int))) = true, 0 ≤ x2, (p0.map (eI .u64))[(x2).toNat]? = some (eI .u64 v1), (x2 == 1) = false])
        (by kernel_rfl) ⟨(len_m (eI .u64) _), (dt h1), (rd_nn h2), (rd_map (eI .u64) h2), (bf h3), trivial⟩ (ih_f130L2 fn hfn p0 x1 x2 (IntKind.wrap .u64 (Int.tdiv v1 128)) [(IntKind.wrap .u8 (Int.tmod v1 128))] _ h)
  · rw [if_neg h1] at h
    replace h := Option.some.inj h; subst h
    exact LH.round hT hm hfn (n := 1000) (ds := [.r [(2, ⟨(.h (.int (p0.length : Int))), [], []⟩)], .b false, .r [], .k ⟨[], [], [0], [], [], 0, [], []⟩])
      (r := (.fin (.tup [(.im (.sl 1 (x1.map (eI .u8)))), (.im (eI .i64 0))]) [] 0)) (obs := [((p0.map (eI .u64)).length : Int) = (p0.length : Int), (decide (x2 < (p0.length : Int))) = false])
      (by kernel_rfl) ⟨(len_m (eI .u64) _), (df h1), trivial⟩ ⟨rfl, rfl, rfl⟩

theorem f130L2_step (k : Nat) (ih_f130L1 : f130L1_P k) (ih_f130L2 : f130L2_P k) : f130L2_P (k + 1) := by
  intro fn hfn p0 x1 x2 x3 x4 r h
  rw [f130L2] at h
  by_cases h1 : x3 > 0
  · rw [if_pos h1] at h
    obtain ⟨v1, h2, h⟩ := bnd h
    exact LH.round hT hm hfn (n := 1000) (ds := [.r [], .b true, .r [(6, ⟨(.h (.ivs (v1.map (eI .u8)))), [], []⟩)], .r [], .k ⟨[], [], [], [0, 5, 6, 7, 8], [(0, 0), (1, 3)], 2, [], []⟩])
      (r := (.head cc130_4 [.blk 4, .seq cc130_5, .blk 3, .seq cc130_6, .loop cc130_2, .blk 2, .seq cc130_3] (f130L2_S p0 x1 x2 (IntKind.wrap .u64 (Int.tdiv x3 128)) v1))) (obs := [(decide (x3 > 0)) = true, [(eI .u8 (IntKind.wrap .u8 (IntKind.wrap .u64 (128 + (Int.tmod x3 128)))))] ++ (x4.map (eI .u8)) = (v1.map (eI .u8)), (v1.map (eI .u8)).length * 1 ≤ 140737488355328, (v1.map (eI .u8)).length ≤ 9223372036854775807])
      (by kernel_rfl) ⟨(dt h1), (ap_map (eI .u8) h2), (ap_b (eI .u8) h2), (ap_n (eI .u8) h2), trivial⟩ (ih_f130L2 fn hfn p0 x1 x2 (IntKind.wrap .u64 (Int.tdiv x3 128)) v1 _ h)
  · rw [if_neg h1] at h
    obtain ⟨v1, h2, h⟩ := bnd h
    exact LH.round hT hm hfn (n := 1000) (ds := [.r [], .b false, .r [(2, ⟨(.h (.ivs (v1.map (eI .u8)))), [], []⟩)], .r [], .k ⟨[], [], [], [0, 5, 6], [(0, 2)], 1, [], []⟩])
      (r := (.head cc130_2 [.blk 2, .seq cc130_3] (f130L1_S p0 v1 (IntKind.wrap .i64 (x2 + 1))))) (obs := [(decide (x3 > 0)) = false, (x1.map (eI .u8)) ++ (x4.map (eI .u8)) = (v1.map (eI .u8)), (v1.map (eI .u8)).length * 1 ≤ 140737488355328, (v1.map (eI .u8)).length ≤ 9223372036854775807])
      (by kernel_rfl) ⟨(df h1), (ap_map (eI .u8) h2), (ap_b (eI .u8) h2), (ap_n (eI .u8) h2), trivial⟩ (ih_f130L1 fn hfn p0 v1 (IntKind.wrap .i64 (x2 + 1)) _ h)

theorem f130L1_all : ∀ k, f130L1_P k ∧ f130L2_P k
  | 0 => ⟨(by intro fn hfn _ _ _ r h; rw [f130L1] at h; cases h), (by intro fn hfn _ _ _ _ _ r h; rw [f130L2] at h; cases h)⟩
  | k + 1 => ⟨f130L1_step k (f130L1_all k).1 (f130L1_all k).2, f130L2_step k (f130L1_all k).1 (f130L1_all k).2⟩

theorem f130L1_ok (fn : Func) (hfn : fn.results = ([.t 2, .t 3].map Rv.var).toArray) (k : Nat) : ∀ (p0 : (List Int)) (x1 : (List Int)) (x2 : Int) (r : (List Int) × Int), f130L1 k p0 x1 x2 = some r → LH PX ⟨fn, 85, 0, (.tup [(.im (.sl 1 (r.1.map (eI .u8)))), (.im (eI .i64 r.2))]), [], 0⟩ cc130_2 [.blk 2, .seq cc130_3] (f130L1_S p0 x1 x2) := (f130L1_all k).1 fn hfn

theorem f130L2_ok (fn : Func) (hfn : fn.results = ([.t 2, .t 3].map Rv.var).toArray) (k : Nat) : ∀ (p0 : (List Int)) (x1 : (List Int)) (x2 : Int) (x3 : Int) (x4 : (List Int)) (r : (List Int) × Int), f130L2 k p0 x1 x2 x3 x4 = some r → LH PX ⟨fn, 85, 0, (.tup [(.im (.sl 1 (r.1.map (eI .u8)))), (.im (eI .i64 r.2))]), [], 0⟩ cc130_4 [.blk 4, .seq cc130_5, .blk 3, .seq cc130_6, .loop cc130_2, .blk 2, .seq cc130_3] (f130L2_S p0 x1 x2 x3 x4) := (f130L1_all k).2 fn hfn

def f130L0_S (p0 : (List Int)) (x1 : Int) : S := ⟨[(0, (.im (.sl 1 (p0.map (eI .u64))))), (4, (.im (eI .i64 x1)))], [], 0⟩

def f130L0 : Nat → (List Int) → Int → Option ((List Int) × Int)
  | 0, _, _ => none
  | k + 1, p0, x1 =>
    if x1 < (p0.length : Int) then (
     (rd p0 x1).bind fun v1 =>
     if v1 > 4294967295 then (
      some ([], 1))
     else (
      f130L0 k p0 (IntKind.wrap .i64 (x1 + 1))))
    else (
     f130L1 k p0 [] 1)

def f130L0_P (k : Nat) : Prop := ∀ (fn : Func) (_ : fn.results = ([.t 2, .t 3].map Rv.var).toArray), ∀ (p0 : (List Int)) (x1 : Int) (r : (List Int) × Int), f130L0 k p0 x1 = some r → LH PX ⟨fn, 85, 0, (.tup [(.im (.sl 1 (r.1.map (eI .u8)))), (.im (eI .i64 r.2))]), [], 0⟩ cc130_0 [.blk 0, .seq cc130_1] (f130L0_S p0 x1)

theorem f130L0_step (k : Nat) (ih_f130L0 : f130L0_P k) : f130L0_P (k + 1) := by
  intro fn hfn p0 x1 r h
  rw [f130L0] at h
  by_cases h1 : x1 < (p0.length : Int)
  · rw [if_pos h1] at h
    obtain ⟨v1, h2, h⟩ := bnd h
    by_cases h3 : v1 > 4294967295
    · rw [if_pos h3] at h
      replace h := Option.some.inj h; subst h
      exact LH.round hT hm hfn (n := 1000) (ds := [.r [(2, ⟨(.h (.int (p0.length : Int))), [], []⟩)], .b true, .r [(2, ⟨(.h (.iv (eI .u64 v1))), [], []⟩)], .b true, .r [], .k ⟨[], [], [], [], [], 0, [(0, (.s [(.n 1)]))], []⟩])
        (r := (.fin (.tup [(.im (.sl 1 [])), (.im (eI .i64 1))]) [] 0)) (obs := [((p0.map (eI .u64)).length : Int) = (p0.length : Int), (decide (x1 < (p0.length : Int))) = true, 0 ≤ x1, (p0.map (eI .u64))[(x1).toNat]? = some (eI .u64 v1), (decide (v1 > 4294967295)) = true])
        (by kernel_rfl) ⟨(len_m (eI .u64) _), (dt h1), (rd_nn h2), (rd_map (eI .u64) h2), (dt h3), trivial⟩ ⟨rfl, rfl, rfl⟩
    · rw [if_neg h3] at h
      exact LH.round hT hm hfn (n := 1000) (ds := [.r [(2, ⟨(.h (.int (p0.length : Int))), [], []⟩)], .b true, .r [(2, ⟨(.h (.iv (eI .u64 v1))), [], []⟩)], .b false, .r [], .k ⟨[], [], [], [0, 4], [], 0, [], []⟩])
        (r := (.head cc130_0 [.blk 0, .seq cc130_1] (f130L0_S p0 (IntKind.wrap .i64 (x1 + 1))))) (obs := [((p0.map (eI .u64)).length : Int) = (p0.length : Int), (decide (x1 < (p0.length : Int))) = true, 0 ≤ x1, (p0.map (eI .u64))[(x1).toNat]? = some (eI .u64 v1), (decide (v1 > 4294967295)) = false])
        (by kernel_rfl) ⟨(len_m (eI .u64) _), (dt h1), (rd_nn h2), (rd_map (eI .u64) h2), (df h3), trivial⟩ (ih_f130L0 fn hfn p0 (IntKind.wrap .i64 (x1 + 1)) _ h)
  · rw [if_neg h1] at h
    exact LH.round hT hm hfn (n := 1000) (ds := [.r [(2, ⟨(.h (.int (p0.length : Int))), [], []⟩)], .b false, .r [], .r [], .k ⟨[], [(5, 5, 1)], [], [0, 5, 6], [(0, 0)], 1, [], []⟩])
      (r := (.head cc130_2 [.blk 2, .seq cc130_3] (f130L1_S p0 [] 1))) (obs := [((p0.map (eI .u64)).length : Int) = (p0.length : Int), (decide (x1 < (p0.length : Int))) = false])
      (by kernel_rfl) ⟨(len_m (eI .u64) _), (df h1), trivial⟩ (f130L1_ok fn hfn k p0 [] 1 _ h)

theorem f130L0_all : ∀ k, f130L0_P k
  | 0 => (by intro fn hfn _ _ r h; rw [f130L0] at h; cases h)
  | k + 1 => f130L0_step k (f130L0_all k)

theorem f130L0_ok (fn : Func) (hfn : fn.results = ([.t 2, .t 3].map Rv.var).toArray) (k : Nat) : ∀ (p0 : (List Int)) (x1 : Int) (r : (List Int) × Int), f130L0 k p0 x1 = some r → LH PX ⟨fn, 85, 0, (.tup [(.im (.sl 1 (r.1.map (eI .u8)))), (.im (eI .i64 r.2))]), [], 0⟩ cc130_0 [.blk 0, .seq cc130_1] (f130L0_S p0 x1) := (f130L0_all k) fn hfn
end Go.Proofs.Tryd.E
end

section
namespace Go.Proofs.Tryd.E
open Go Go.Eng
set_option maxRecDepth 100000
set_option linter.unusedVariables false
def f130 (k : Nat) (p0 : (List Int)) : Option ((List Int) × Int) :=
  if (p0.length : Int) < 2 then (
   some ([], 1))
  else (
   if (p0.length : Int) > 16 then (
    some ([], 1))
   else (
    (rd p0 0).bind fun v1 =>
    if v1 > 2 then (
     some ([], 1))
    else (
     if v1 < 2 then (
      (rd p0 1).bind fun v2 =>
      if v2 > 39 then (
       some ([], 1))
      else (
       f130L0 k p0 0))
     else (
      f130L0 k p0 0))))

theorem f130_ok (k : Nat) : ∀ (p0 : (List Int)) (r : (List Int) × Int), f130 k p0 = some r → Ct.Ok PX 130 ⟨[(.im (.sl 1 (p0.map (eI .u64))))], [], 0, (.tup [(.im (.sl 1 (r.1.map (eI .u8)))), (.im (eI .i64 r.2))]), [], 0⟩ := by
  intro p0 r h
  unfold f130 at h
  by_cases h1 : (p0.length : Int) < 2
  · rw [if_pos h1] at h
    replace h := Option.some.inj h; subst h
    exact Ct.ofWalk hT hm F130 (by kernel_rfl) (n := 1000) (ds := [.r [], .r [(1, ⟨(.h (.int (p0.length : Int))), [], []⟩), (4, ⟨(.h .gf), [], []⟩), (5, ⟨(.h .gf), [], []⟩), (6, ⟨(.h .gf), [], []⟩), (7, ⟨(.h (.gt .no)), [], []⟩)], .bc true, .r [], .k ⟨[], [], [], [], [], 0, [(0, (.s [(.n 1)]))], []⟩])
      (r := (.fin (.tup [(.im (.sl 1 [])), (.im (eI .i64 1))]) [] 0)) (obs := [((p0.map (eI .u64)).length : Int) = (p0.length : Int), (decide ((p0.length : Int) < 2)) = !false, (decide ((p0.length : Int) < 2)) = !false, (decide ((p0.length : Int) < 2)) = !false, (decide ((p0.length : Int) < 2)) = true])
      (by kernel_rfl) ⟨(len_m (eI .u64) _), (dt h1), (dt h1), (dt h1), (dt h1), trivial⟩ (fun fn hfn => ⟨rfl, rfl, rfl⟩)
  · rw [if_neg h1] at h
    by_cases h2 : (p0.length : Int) > 16
    · rw [if_pos h2] at h
      replace h := Option.some.inj h; subst h
      exact Ct.ofWalk hT hm F130 (by kernel_rfl) (n := 1000) (ds := [.r [], .r [(1, ⟨(.h (.int (p0.length : Int))), [], []⟩), (4, ⟨(.h (.gt .no)), [], []⟩), (5, ⟨(.h (.gt (.int (p0.length : Int)))), [], []⟩), (6, ⟨(.h (.gt .no)), [], []⟩), (7, ⟨(.h .gf), [], []⟩), (9, ⟨(.h .gf), [], []⟩), (10, ⟨(.h .gf), [], []⟩), (11, ⟨(.h .gf), [], []⟩), (12, ⟨(.h .gf), [], []⟩), (13, ⟨(.h (.gt .no)), [], []⟩)], .bc true, .r [], .k ⟨[], [], [], [], [], 0, [(0, (.s [(.n 1)]))], []⟩])
        (r := (.fin (.tup [(.im (.sl 1 [])), (.im (eI .i64 1))]) [] 0)) (obs := [((p0.map (eI .u64)).length : Int) = (p0.length : Int), (decide ((p0.length : Int) < 2)) = false, (decide ((p0.length : Int) < 2)) = false, ((p0.map (eI .u64)).length : Int) = (p0.length : Int), (decide ((p0.length : Int) < 2)) = false, (decide ((p0.length : Int) < 2)) = false, (decide ((p0.length : Int) > 16)) = !false, (decide ((p0.length : Int) > 16)) = !false, (decide ((p0.length : Int) > 16)) = !false, (decide ((p0.length : Int) > 16)) = !false, (decide ((p0.length : Int) > 16)) = true])
        (by kernel_rfl) ⟨(len_m (eI .u64) _), (df h1), (df h1), (len_m (eI .u64) _), (df h1), (df h1), (dt h2), (dt h2), (dt h2), (dt h2), (dt h2), trivial⟩ (fun fn hfn => ⟨rfl, rfl, rfl⟩)
    · rw [if_neg h2] at h
      obtain ⟨v1, h3, h⟩ := bnd h
      by_cases h4 : v1 > 2
      · rw [if_pos h4] at h
        replace h := Option.some.inj h; subst h
        exact Ct.ofWalk hT hm F130 (by kernel_rfl) (n := 1000) (ds := [.r [], .r [(1, ⟨(.h (.int (p0.length : Int))), [], []⟩), (4, ⟨(.h (.gt .no)), [], []⟩), (5, ⟨(.h (.gt (.int (p0.length : Int)))), [], []⟩), (6, ⟨(.h (.gt .no)), [], []⟩), (7, ⟨(.h .gf), [], []⟩), (9, ⟨(.h (.gt .no)), [], []⟩), (10, ⟨(.h (.gt (.iv (eI .u64 v1)))), [], []⟩), (11, ⟨(.h (.gt .no)), [], []⟩), (12, ⟨(.h (.gt .no)), [], []⟩), (13, ⟨(.h .gf), [], []⟩), (15, ⟨(.h .gf), [], []⟩), (16, ⟨(.h .gf), [], []⟩), (17, ⟨(.h .gf), [], []⟩), (18, ⟨(.h .gf), [], []⟩), (19, ⟨(.h .gf), [], []⟩), (24, ⟨(.h .gf), [], []⟩), (25, ⟨(.h (.gt .no)), [], []⟩)], .bc true, .r [], .k ⟨[], [], [], [], [], 0, [(0, (.s [(.n 1)]))], []⟩])
          (r := (.fin (.tup [(.im (.sl 1 [])), (.im (eI .i64 1))]) [] 0)) (obs := [((p0.map (eI .u64)).length : Int) = (p0.length : Int), (decide ((p0.length : Int) < 2)) = false, (decide ((p0.length : Int) < 2)) = false, ((p0.map (eI .u64)).length : Int) = (p0.length : Int), (decide ((p0.length : Int) < 2)) = false, (decide ((p0.length : Int) < 2)) = false, (decide ((p0.length : Int) > 16)) = false, (decide ((p0.length : Int) > 16)) = false, 0 ≤ 0, (p0.map (eI .u64))[0]? = some (eI .u64 v1), (decide ((p0.length : Int) > 16)) = false, (decide ((p0.length : Int) > 16)) = false, (decide ((p0.length : Int) > 16)) = false, (decide (v1 > 2)) = !false, (decide (v1 > 2)) = !false, (decide (v1 > 2)) = !false, (decide (v1 > 2)) = !false, (decide (v1 > 2)) = !false, (decide (v1 > 2)) = !false, (decide (v1 > 2)) = true])
          (by kernel_rfl) ⟨(len_m (eI .u64) _), (df h1), (df h1), (len_m (eI .u64) _), (df h1), (df h1), (df h2), (df h2), (rd_nn h3), (rd_map (eI .u64) h3), (df h2), (df h2), (df h2), (dt h4), (dt h4), (dt h4), (dt h4), (dt h4), (dt h4), (dt h4), trivial⟩ (fun fn hfn => ⟨rfl, rfl, rfl⟩)
      · rw [if_neg h4] at h
        by_cases h5 : v1 < 2
        · rw [if_pos h5] at h
          obtain ⟨v2, h6, h⟩ := bnd h
          by_cases h7 : v2 > 39
          · rw [if_pos h7] at h
            replace h := Option.some.inj h; subst h
            exact Ct.ofWalk hT hm F130 (by kernel_rfl) (n := 1000) (ds := [.r [], .r [(1, ⟨(.h (.int (p0.length : Int))), [], []⟩), (4, ⟨(.h (.gt .no)), [], []⟩), (5, ⟨(.h (.gt (.int (p0.length : Int)))), [], []⟩), (6, ⟨(.h (.gt .no)), [], []⟩), (7, ⟨(.h .gf), [], []⟩), (9, ⟨(.h (.gt .no)), [], []⟩), (10, ⟨(.h (.gt (.iv (eI .u64 v1)))), [], []⟩), (11, ⟨(.h (.gt .no)), [], []⟩), (12, ⟨(.h (.gt .no)), [], []⟩), (13, ⟨(.h .gf), [], []⟩), (15, ⟨(.h (.gt .no)), [], []⟩), (16, ⟨(.h (.gt (.iv (eI .u64 v1)))), [], []⟩), (17, ⟨(.h (.gt .no)), [], []⟩), (18, ⟨(.h (.gt .no)), [], []⟩), (19, ⟨(.h (.gt .no)), [], []⟩), (20, ⟨(.h (.gt .no)), [], []⟩), (21, ⟨(.h (.gt (.iv (eI .u64 v2)))), [], []⟩), (22, ⟨(.h (.gt .no)), [], []⟩), (23, ⟨(.h (.gt .no)), [], []⟩), (24, ⟨(.h (.gt (.gt .no))), [], []⟩), (25, ⟨(.h .gf), [], []⟩)], .b true, .r [], .k ⟨[], [], [], [], [], 0, [(0, (.s [(.n 1)]))], []⟩])
              (r := (.fin (.tup [(.im (.sl 1 [])), (.im (eI .i64 1))]) [] 0)) (obs := [((p0.map (eI .u64)).length : Int) = (p0.length : Int), (decide ((p0.length : Int) < 2)) = false, (decide ((p0.length : Int) < 2)) = false, ((p0.map (eI .u64)).length : Int) = (p0.length : Int), (decide ((p0.length : Int) < 2)) = false, (decide ((p0.length : Int) < 2)) = false, (decide ((p0.length : Int) > 16)) = false, (decide ((p0.length : Int) > 16)) = false, 0 ≤ 0, (p0.map (eI .u64))[0]? = some (eI .u64 v1), (decide ((p0.length : Int) > 16)) = false, (decide ((p0.length : Int) > 16)) = false, (decide ((p0.length : Int) > 16)) = false, (decide (v1 > 2)) = false, (decide (v1 > 2)) = false, 0 ≤ 0, (p0.map (eI .u64))[0]? = some (eI .u64 v1), (decide (v1 > 2)) = false, (decide (v1 > 2)) = false, (decide (v1 > 2)) = false, (decide (v1 < 2)) = true, (decide (v1 < 2)) = true, 0 ≤ 1, (p0.map (eI .u64))[1]? = some (eI .u64 v2), (decide (v1 < 2)) = true, (decide (v1 < 2)) = true, (decide (v1 > 2)) = false, (decide (v1 < 2)) = true, (decide (v1 > 2)) = false, (decide (v2 > 39)) = true])
              (by kernel_rfl) ⟨(len_m (eI .u64) _), (df h1), (df h1), (len_m (eI .u64) _), (df h1), (df h1), (df h2), (df h2), (rd_nn h3), (rd_map (eI .u64) h3), (df h2), (df h2), (df h2), (df h4), (df h4), (rd_nn h3), (rd_map (eI .u64) h3), (df h4), (df h4), (df h4), (dt h5), (dt h5), (rd_nn h6), (rd_map (eI .u64) h6), (dt h5), (dt h5), (df h4), (dt h5), (df h4), (dt h7), trivial⟩ (fun fn hfn => ⟨rfl, rfl, rfl⟩)
          · rw [if_neg h7] at h
            exact Ct.ofWalk hT hm F130 (by kernel_rfl) (n := 1000) (ds := [.r [], .r [(1, ⟨(.h (.int (p0.length : Int))), [], []⟩), (4, ⟨(.h (.gt .no)), [], []⟩), (5, ⟨(.h (.gt (.int (p0.length : Int)))), [], []⟩), (6, ⟨(.h (.gt .no)), [], []⟩), (7, ⟨(.h .gf), [], []⟩), (9, ⟨(.h (.gt .no)), [], []⟩), (10, ⟨(.h (.gt (.iv (eI .u64 v1)))), [], []⟩), (11, ⟨(.h (.gt .no)), [], []⟩), (12, ⟨(.h (.gt .no)), [], []⟩), (13, ⟨(.h .gf), [], []⟩), (15, ⟨(.h (.gt .no)), [], []⟩), (16, ⟨(.h (.gt (.iv (eI .u64 v1)))), [], []⟩), (17, ⟨(.h (.gt .no)), [], []⟩), (18, ⟨(.h (.gt .no)), [], []⟩), (19, ⟨(.h (.gt .no)), [], []⟩), (20, ⟨(.h (.gt .no)), [], []⟩), (21, ⟨(.h (.gt (.iv (eI .u64 v2)))), [], []⟩), (22, ⟨(.h (.gt .no)), [], []⟩), (23, ⟨(.h (.gt .no)), [], []⟩), (24, ⟨(.h (.gt (.gt .no))), [], []⟩), (25, ⟨(.h .gf), [], []⟩)], .b false, .r [], .k ⟨[], [], [], [0, 4], [], 0, [], []⟩])
              (r := (.head cc130_0 [.blk 0, .seq cc130_1] (f130L0_S p0 0))) (obs := [((p0.map (eI .u64)).length : Int) = (p0.length : Int), (decide ((p0.length : Int) < 2)) = false, (decide ((p0.length : Int) < 2)) = false, ((p0.map (eI .u64)).length : Int) = (p0.length : Int), (decide ((p0.length : Int) < 2)) = false, (decide ((p0.length : Int) < 2)) = false, (decide ((p0.length : Int) > 16)) = false, (decide ((p0.length : Int) > 16)) = false, 0 ≤ 0, (p0.map (eI .u64))[0]? = some (eI .u64 v1), (decide ((p0.length : Int) > 16)) = false, (decide ((p0.length : Int) > 16)) = false, (decide ((p0.length : Int) > 16)) = false, (decide (v1 > 2)) = false, (decide (v1 > 2)) = false, 0 ≤ 0, (p0.map (eI .u64))[0]? = some (eI .u64 v1), (decide (v1 > 2)) = false, (decide (v1 > 2)) = false, (decide (v1 > 2)) = false, (decide (v1 < 2)) = true, (decide (v1 < 2)) = true, 0 ≤ 1, (p0.map (eI .u64))[1]? = some (eI .u64 v2), (decide (v1 < 2)) = true, (decide (v1 < 2)) = true, (decide (v1 > 2)) = false, (decide (v1 < 2)) = true, (decide (v1 > 2)) = false, (decide (v2 > 39)) = false])
              (by kernel_rfl) ⟨(len_m (eI .u64) _), (df h1), (df h1), (len_m (eI .u64) _), (df h1), (df h1), (df h2), (df h2), (rd_nn h3), (rd_map (eI .u64) h3), (df h2), (df h2), (df h2), (df h4), (df h4), (rd_nn h3), (rd_map (eI .u64) h3), (df h4), (df h4), (df h4), (dt h5), (dt h5), (rd_nn h6), (rd_map (eI .u64) h6), (dt h5), (dt h5), (df h4), (dt h5), (df h4), (df h7), trivial⟩ (fun fn hfn => f130L0_ok fn hfn k p0 0 _ h)
        · rw [if_neg h5] at h
          exact Ct.ofWalk hT hm F130 (by kernel_rfl) (n := 1000) (ds := [.r [], .r [(1, ⟨(.h (.int (p0.length : Int))), [], []⟩), (4, ⟨(.h (.gt .no)), [], []⟩), (5, ⟨(.h (.gt (.int (p0.length : Int)))), [], []⟩), (6, ⟨(.h (.gt .no)), [], []⟩), (7, ⟨(.h .gf), [], []⟩), (9, ⟨(.h (.gt .no)), [], []⟩), (10, ⟨(.h (.gt (.iv (eI .u64 v1)))), [], []⟩), (11, ⟨(.h (.gt .no)), [], []⟩), (12, ⟨(.h (.gt .no)), [], []⟩), (13, ⟨(.h .gf), [], []⟩), (15, ⟨(.h (.gt .no)), [], []⟩), (16, ⟨(.h (.gt (.iv (eI .u64 v1)))), [], []⟩), (17, ⟨(.h (.gt .no)), [], []⟩), (18, ⟨(.h (.gt .no)), [], []⟩), (19, ⟨(.h (.gt .no)), [], []⟩), (20, ⟨(.h .gf), [], []⟩), (21, ⟨(.h .gf), [], []⟩), (22, ⟨(.h .gf), [], []⟩), (23, ⟨(.h .gf), [], []⟩), (24, ⟨(.h (.gt .gf)), [], []⟩), (25, ⟨(.h .gf), [], []⟩)], .bc false, .r [], .k ⟨[], [], [], [0, 4], [], 0, [], []⟩])
            (r := (.head cc130_0 [.blk 0, .seq cc130_1] (f130L0_S p0 0))) (obs := [((p0.map (eI .u64)).length : Int) = (p0.length : Int), (decide ((p0.length : Int) < 2)) = false, (decide ((p0.length : Int) < 2)) = false, ((p0.map (eI .u64)).length : Int) = (p0.length : Int), (decide ((p0.length : Int) < 2)) = false, (decide ((p0.length : Int) < 2)) = false, (decide ((p0.length : Int) > 16)) = false, (decide ((p0.length : Int) > 16)) = false, 0 ≤ 0, (p0.map (eI .u64))[0]? = some (eI .u64 v1), (decide ((p0.length : Int) > 16)) = false, (decide ((p0.length : Int) > 16)) = false, (decide ((p0.length : Int) > 16)) = false, (decide (v1 > 2)) = false, (decide (v1 > 2)) = false, 0 ≤ 0, (p0.map (eI .u64))[0]? = some (eI .u64 v1), (decide (v1 > 2)) = false, (decide (v1 > 2)) = false, (decide (v1 > 2)) = false, (decide (v1 < 2)) = !true, (decide (v1 < 2)) = !true, (decide (v1 < 2)) = !true, (decide (v1 < 2)) = !true, (decide (v1 > 2)) = false, (decide (v1 < 2)) = false, (decide (v1 > 2)) = false])
            (by kernel_rfl) ⟨(len_m (eI .u64) _), (df h1), (df h1), (len_m (eI .u64) _), (df h1), (df h1), (df h2), (df h2), (rd_nn h3), (rd_map (eI .u64) h3), (df h2), (df h2), (df h2), (df h4), (df h4), (rd_nn h3), (rd_map (eI .u64) h3), (df h4), (df h4), (df h4), (df h5), (df h5), (df h5), (df h5), (df h4), (df h5), (df h4), trivial⟩ (fun fn hfn => f130L0_ok fn hfn k p0 0 _ h)

def f85 (k : Nat) (p0 : (List Int)) : Option (STlv) :=
  (f130 k p0).bind fun v1 =>
  some (STlv.mk 0 6 false v1.1 [])

theorem f85_ok (k : Nat) : ∀ (p0 : (List Int)) (r : STlv), f85 k p0 = some r → Ct.Ok PX 85 ⟨[(.im (.sl 1 (p0.map (eI .u64))))], [], 0, (.im (.st [(1, (eI .i64 r.Class)), (1, (eI .i64 r.Tag)), (1, (eB r.Made)), (1, (.sl 1 (r.Body.map (eI .u8)))), (1, (.sl 5 (r.Kids.map eSTlv)))])), [], 0⟩ := by
  intro p0 r h
  unfold f85 at h
  obtain ⟨v1, h1, h⟩ := bnd h
  replace h := Option.some.inj h; subst h
  exact Ct.ofWalk hT hm F85 (by kernel_rfl) (n := 1000) (ds := [.r [], .r [(1, ⟨(.c false [] ⟨[], [], [], 0, (.tup [(.im (.sl 1 (v1.1.map (eI .u8)))), (.im (eI .i64 v1.2))]), [], 0, [], 1⟩), [], []⟩)], .r [], .k ⟨[], [], [], [], [], 0, [(0, (.s [.k, .k, .k, .k, (.n 5)]))], []⟩])
    (r := (.fin (.im (.st [(1, (eI .i64 0)), (1, (eI .i64 6)), (1, (eB false)), (1, (.sl 1 (v1.1.map (eI .u8)))), (1, (.sl 5 []))])) [] 0)) (obs := [Ct.Ok PX 130 ⟨[(.im (.sl 1 (p0.map (eI .u64))))], [], 0, (.tup [(.im (.sl 1 (v1.1.map (eI .u8)))), (.im (eI .i64 v1.2))]), [], 0⟩])
    (by kernel_rfl) ⟨(f130_ok k p0 v1 h1), trivial⟩ (fun fn hfn => ⟨rfl, rfl, rfl⟩)
end Go.Proofs.Tryd.E
end

section
namespace Go.Proofs.Tryd.E
open Go Go.Eng
set_option maxRecDepth 100000
set_option linter.unusedVariables false
def f43 (k : Nat) : Option (STlv) :=
  (f85 k [1, 2, 840, 10045, 4, 3, 3]).bind fun v1 =>
  some (STlv.mk 0 16 true [] [v1])

theorem f43_ok (k : Nat) : ∀  (r : STlv), f43 k = some r → Ct.Ok PX 43 ⟨[], [], 0, (.im (.st [(1, (eI .i64 r.Class)), (1, (eI .i64 r.Tag)), (1, (eB r.Made)), (1, (.sl 1 (r.Body.map (eI .u8)))), (1, (.sl 5 (r.Kids.map eSTlv)))])), [], 0⟩ := by
  intro r h
  unfold f43 at h
  obtain ⟨v1, h1, h⟩ := bnd h
  replace h := Option.some.inj h; subst h
  exact Ct.ofWalk hT hm F43 (by kernel_rfl) (n := 1000) (ds := [.r [], .r [(1, ⟨(.c false [1] ⟨[], [], [], 0, (.im (.st [(1, (eI .i64 v1.Class)), (1, (eI .i64 v1.Tag)), (1, (eB v1.Made)), (1, (.sl 1 (v1.Body.map (eI .u8)))), (1, (.sl 5 (v1.Kids.map eSTlv)))])), [], 0, [], 2⟩), [], []⟩)], .k ⟨[], [], [2], [], [], 0, [(0, (.s [.k, .k, .k, (.n 1), (.e (.sl 5 ([v1].map eSTlv)))]))], []⟩])
    (r := (.fin (.im (.st [(1, (eI .i64 0)), (1, (eI .i64 16)), (1, (eB true)), (1, (.sl 1 [])), (1, (.sl 5 ([v1].map eSTlv)))])) [] 0)) (obs := [Ct.Ok PX 85 ⟨[(.im (.sl 1 [(eI .u64 1), (eI .u64 2), (eI .u64 840), (eI .u64 10045), (eI .u64 4), (eI .u64 3), (eI .u64 3)]))], [], 0, (.im (.st [(1, (eI .i64 v1.Class)), (1, (eI .i64 v1.Tag)), (1, (eB v1.Made)), (1, (.sl 1 (v1.Body.map (eI .u8)))), (1, (.sl 5 (v1.Kids.map eSTlv)))])), [], 0⟩, .sl 5 [(.st [(1, (eI .i64 v1.Class)), (1, (eI .i64 v1.Tag)), (1, (eB v1.Made)), (1, (.sl 1 (v1.Body.map (eI .u8)))), (1, (.sl 5 (v1.Kids.map eSTlv)))])] = (.sl 5 ([v1].map eSTlv) : IV)])
    (by kernel_rfl) ⟨(f85_ok k [1, 2, 840, 10045, 4, 3, 3] v1 h1), (congrArg (IV.sl 5) (show [(.st [(1, (eI .i64 v1.Class)), (1, (eI .i64 v1.Tag)), (1, (eB v1.Made)), (1, (.sl 1 (v1.Body.map (eI .u8)))), (1, (.sl 5 (v1.Kids.map eSTlv)))])] = [v1].map eSTlv from by simp only [List.map_cons, List.map_nil, eSTlv_eq, STlv.Class, STlv.Tag, STlv.Made, STlv.Body, STlv.Kids])), trivial⟩ (fun fn hfn => ⟨rfl, rfl, rfl⟩)

def f44L0_S (p0 : (List SPart)) (x1 : Int) (x11 : (List STlv)) : S := ⟨[(0, (.im (.sl 2 (p0.map eSPart)))), (2, (.ref 0 [])), (3, (.ref 1 [])), (4, (.im (eI .i64 x1)))], [(0, (.box false 5 (.im (.st [(1, (eI .i64 0)), (1, (eI .i64 0)), (1, (eB false)), (1, (.v (.slice none 0 0))), (1, (.v (.slice none 0 0)))])))), (1, (.box false 5 (.st [(1, (.im (eI .i64 0))), (1, (.im (eI .i64 16))), (1, (.im (eB true))), (1, (.im (.v (.slice none 0 0)))), (1, (.ownF 5 2))]))), (2, (.row 35 5 (x11.map eSTlv) 0))], 3⟩

def f44L0 : Nat → (List SPart) → Int → (List STlv) → Option (STlv)
  | 0, _, _, _ => none
  | k + 1, p0, x1, x11 =>
    if x1 < (p0.length : Int) then (
     (rd p0 x1).bind fun v1 =>
     (ap 72 x11 [(STlv.mk 0 17 true [] [(STlv.mk 0 16 true [] [(STlv.mk 0 6 false [85, 4, (IntKind.wrap .u8 v1.Kind)] []), (STlv.mk 0 12 false (ints v1.Text) [])])])]).bind fun v2 =>
     f44L0 k p0 (IntKind.wrap .i64 (x1 + 1)) v2)
    else (
     some (STlv.mk 0 16 true [] x11))

def f44L0_P (k : Nat) : Prop := ∀ (fn : Func) (_ : fn.results = ([.c 2 35].map Rv.var).toArray), ∀ (p0 : (List SPart)) (x1 : Int) (x11 : (List STlv)) (r : STlv), f44L0 k p0 x1 x11 = some r → LH PX ⟨fn, 41, 0, (.im (.st [(1, (eI .i64 r.Class)), (1, (eI .i64 r.Tag)), (1, (eB r.Made)), (1, (.sl 1 (r.Body.map (eI .u8)))), (1, (.sl 5 (r.Kids.map eSTlv)))])), [], 0⟩ cc44_0 [.blk 0, .seq cc44_1] (f44L0_S p0 x1 x11)

theorem f44L0_step (k : Nat) (ih_f44L0 : f44L0_P k) : f44L0_P (k + 1) := by
  intro fn hfn p0 x1 x11 r h
  rw [f44L0] at h
  by_cases h1 : x1 < (p0.length : Int)
  · rw [if_pos h1] at h
    obtain ⟨v1, h2, h⟩ := bnd h
    obtain ⟨v2, h3, h⟩ := bnd h
    exact LH.round hT hm hfn (n := 1000) (ds := [.r [(2, ⟨(.h (.int (p0.length : Int))), [], []⟩)], .b true, .r [(2, ⟨(.h (.iv (.st [(1, (eI .i64 v1.Kind)), (1, (eStr v1.Text))]))), [], []⟩), (10, ⟨(.h (.iv (.st [(1, (eI .i64 v1.Kind)), (1, (eStr v1.Text))]))), [], []⟩), (13, ⟨(.h (.ints (ints v1.Text))), [], []⟩), (15, ⟨.a, [.ps [(4, (.s [(.s [.k, .k, .k, .k, (.n 5)]), (.s [.k, .k, .k, .k, (.n 5)])]))]], []⟩)], .r [(2, ⟨.a, [.ps [(5, (.s [(.s [.k, .k, .k, (.n 1)])]))]], []⟩)], .r [(4, ⟨.a, [.ps [(6, (.s [(.s [.k, .k, .k, (.n 1)])]))]], []⟩), (5, ⟨(.h (.ivs (v2.map eSTlv))), [], []⟩)], .r [], .k ⟨[], [], [], [0, 2, 3, 4], [(0, 0), (1, 1), (2, 7)], 3, [], []⟩])
      (r := (.head cc44_0 [.blk 0, .seq cc44_1] (f44L0_S p0 (IntKind.wrap .i64 (x1 + 1)) v2))) (obs := [((p0.map eSPart).length : Int) = (p0.length : Int), (decide (x1 < (p0.length : Int))) = true, 0 ≤ x1, (p0.map eSPart)[(x1).toNat]? = some (.st [(1, (eI .i64 v1.Kind)), (1, (eStr v1.Text))]), 0 ≤ x1, (p0.map eSPart)[(x1).toNat]? = some (.st [(1, (eI .i64 v1.Kind)), (1, (eStr v1.Text))]), bytesOf (ints v1.Text) = v1.Text, ∀ n ∈ ints v1.Text, 0 ≤ n ∧ n < 256, (x11.map eSTlv) ++ [(.st [(1, (eI .i64 0)), (1, (eI .i64 17)), (1, (eB true)), (1, (.sl 1 [])), (1, (.sl 5 [(.st [(1, (eI .i64 0)), (1, (eI .i64 16)), (1, (eB true)), (1, (.sl 1 [])), (1, (.sl 5 [(.st [(1, (eI .i64 0)), (1, (eI .i64 6)), (1, (eB false)), (1, (.sl 1 [(eI .u8 85), (eI .u8 4), (eI .u8 (IntKind.wrap .u8 v1.Kind))])), (1, (.sl 5 []))]), (.st [(1, (eI .i64 0)), (1, (eI .i64 12)), (1, (eB false)), (1, (.sl 1 ((ints v1.Text).map (eI .u8)))), (1, (.sl 5 []))])]))])]))])] = (v2.map eSTlv), (v2.map eSTlv).length * 72 ≤ 140737488355328, (v2.map eSTlv).length ≤ 9223372036854775807])
      (by kernel_rfl) ⟨(len_m eSPart _), (dt h1), (rd_nn h2), (rd_map eSPart h2), (rd_nn h2), (rd_map eSPart h2), (ints_ok _), (ints_rng _), ((congr (congrArg HAppend.hAppend rfl) (show [(.st [(1, (eI .i64 0)), (1, (eI .i64 17)), (1, (eB true)), (1, (.sl 1 [])), (1, (.sl 5 [(.st [(1, (eI .i64 0)), (1, (eI .i64 16)), (1, (eB true)), (1, (.sl 1 [])), (1, (.sl 5 [(.st [(1, (eI .i64 0)), (1, (eI .i64 6)), (1, (eB false)), (1, (.sl 1 [(eI .u8 85), (eI .u8 4), (eI .u8 (IntKind.wrap .u8 v1.Kind))])), (1, (.sl 5 []))]), (.st [(1, (eI .i64 0)), (1, (eI .i64 12)), (1, (eB false)), (1, (.sl 1 ((ints v1.Text).map (eI .u8)))), (1, (.sl 5 []))])]))])]))])] = [(STlv.mk 0 17 true [] [(STlv.mk 0 16 true [] [(STlv.mk 0 6 false [85, 4, (IntKind.wrap .u8 v1.Kind)] []), (STlv.mk 0 12 false (ints v1.Text) [])])])].map eSTlv from by simp only [List.map_cons, List.map_nil, eSTlv_eq, STlv.Class, STlv.Tag, STlv.Made, STlv.Body, STlv.Kids])).trans (ap_map eSTlv h3)), (ap_b eSTlv h3), (ap_n eSTlv h3), trivial⟩ (ih_f44L0 fn hfn p0 (IntKind.wrap .i64 (x1 + 1)) v2 _ h)
  · rw [if_neg h1] at h
    replace h := Option.some.inj h; subst h
    exact LH.round hT hm hfn (n := 1000) (ds := [.r [(2, ⟨(.h (.int (p0.length : Int))), [], []⟩)], .b false, .r [], .k ⟨[], [], [2], [], [], 0, [(0, (.s [.k, .k, .k, (.n 1)]))], []⟩])
      (r := (.fin (.im (.st [(1, (eI .i64 0)), (1, (eI .i64 16)), (1, (eB true)), (1, (.sl 1 [])), (1, (.sl 5 (x11.map eSTlv)))])) [] 0)) (obs := [((p0.map eSPart).length : Int) = (p0.length : Int), (decide (x1 < (p0.length : Int))) = false])
      (by kernel_rfl) ⟨(len_m eSPart _), (df h1), trivial⟩ ⟨rfl, rfl, rfl⟩

theorem f44L0_all : ∀ k, f44L0_P k
  | 0 => (by intro fn hfn _ _ _ r h; rw [f44L0] at h; cases h)
  | k + 1 => f44L0_step k (f44L0_all k)

theorem f44L0_ok (fn : Func) (hfn : fn.results = ([.c 2 35].map Rv.var).toArray) (k : Nat) : ∀ (p0 : (List SPart)) (x1 : Int) (x11 : (List STlv)) (r : STlv), f44L0 k p0 x1 x11 = some r → LH PX ⟨fn, 41, 0, (.im (.st [(1, (eI .i64 r.Class)), (1, (eI .i64 r.Tag)), (1, (eB r.Made)), (1, (.sl 1 (r.Body.map (eI .u8)))), (1, (.sl 5 (r.Kids.map eSTlv)))])), [], 0⟩ cc44_0 [.blk 0, .seq cc44_1] (f44L0_S p0 x1 x11) := (f44L0_all k) fn hfn

def f44 (k : Nat) (p0 : (List SPart)) : Option (STlv) :=
  f44L0 k p0 0 []

theorem f44_ok (k : Nat) : ∀ (p0 : (List SPart)) (r : STlv), f44 k p0 = some r → Ct.Ok PX 44 ⟨[(.im (.sl 2 (p0.map eSPart)))], [], 0, (.im (.st [(1, (eI .i64 r.Class)), (1, (eI .i64 r.Tag)), (1, (eB r.Made)), (1, (.sl 1 (r.Body.map (eI .u8)))), (1, (.sl 5 (r.Kids.map eSTlv)))])), [], 0⟩ := by
  intro p0 r h
  unfold f44 at h
  exact Ct.ofWalk hT hm F44 (by kernel_rfl) (n := 1000) (ds := [.r [], .r [], .r [], .k ⟨[(1, [4], 35, 5)], [], [], [0, 2, 3, 4], [(0, 0), (1, 1), (2, 2)], 3, [], []⟩])
    (r := (.head cc44_0 [.blk 0, .seq cc44_1] (f44L0_S p0 0 []))) (obs := [])
    (by kernel_rfl) trivial (fun fn hfn => f44L0_ok fn hfn k p0 0 [] _ h)
end Go.Proofs.Tryd.E
end

section
namespace Go.Proofs.Tryd.E
open Go Go.Eng
set_option maxRecDepth 100000
set_option linter.unusedVariables false
def f19 (k : Nat) (p0 : SCrl) : Option ((List Int) × Int) :=
  (f40 k p0.This).bind fun v1 =>
  (f40 k p0.Next).bind fun v2 =>
  (f41 k p0.Issuer).bind fun v3 =>
  if v1.2 = true then (
   if v2.2 = true then (
    if v3 = true then (
     if (p0.Gone.length : Int) > 64 then (
      some ([], 1))
     else (
      (f42 k).bind fun v4 =>
      (f43 k).bind fun v5 =>
      (f44 k p0.Issuer).bind fun v6 =>
      f19L0 k p0 [v4, v5, v6, v1.1, v2.1] [] 0))
    else (
     some ([], 1)))
   else (
    some ([], 1)))
  else (
   some ([], 1))

theorem f19_ok (k : Nat) : ∀ (p0 : SCrl) (r : (List Int) × Int), f19 k p0 = some r → Ct.Ok PX 19 ⟨[(.im (.st [(1, (.sl 2 (p0.Issuer.map eSPart))), (1, (eI .i64 p0.This)), (1, (eI .i64 p0.Next)), (1, (.sl 2 (p0.Gone.map eSGone))), (1, (.sl 1 (p0.Body.map (eI .u8)))), (12, (.st [(6, (.arr 1 (p0.Sig.R.l.map (eI .u64)))), (6, (.arr 1 (p0.Sig.S.l.map (eI .u64))))]))]))], [], 0, (.tup [(.im (.sl 1 (r.1.map (eI .u8)))), (.im (eI .i64 r.2))]), [], 0⟩ := by
  intro p0 r h
  unfold f19 at h
  obtain ⟨v1, h1, h⟩ := bnd h
  obtain ⟨v2, h2, h⟩ := bnd h
  obtain ⟨v3, h3, h⟩ := bnd h
  by_cases h4 : v1.2 = true
  · rw [if_pos h4] at h
    by_cases h5 : v2.2 = true
    · rw [if_pos h5] at h
      by_cases h6 : v3 = true
      · rw [if_pos h6] at h
        by_cases h7 : (p0.Gone.length : Int) > 64
        · rw [if_pos h7] at h
          replace h := Option.some.inj h; subst h
          exact Ct.ofWalk hT hm F19 (by kernel_rfl) (n := 1000) (ds := [.r [], .r [(2, ⟨(.c false [] ⟨[], [], [], 0, (.tup [(.im (.st [(1, (eI .i64 v1.1.Class)), (1, (eI .i64 v1.1.Tag)), (1, (eB v1.1.Made)), (1, (.sl 1 (v1.1.Body.map (eI .u8)))), (1, (.sl 5 (v1.1.Kids.map eSTlv)))])), (.im (eB v1.2))]), [], 0, [], 1⟩), [], []⟩)], .r [(2, ⟨(.c false [] ⟨[], [], [], 0, (.tup [(.im (.st [(1, (eI .i64 v2.1.Class)), (1, (eI .i64 v2.1.Tag)), (1, (eB v2.1.Made)), (1, (.sl 1 (v2.1.Body.map (eI .u8)))), (1, (.sl 5 (v2.1.Kids.map eSTlv)))])), (.im (eB v2.2))]), [], 0, [], 2⟩), [], []⟩)], .r [(2, ⟨(.c false [] ⟨[], [], [], 0, (.im (eB v3)), [], 0, [], 3⟩), [], []⟩)], .r [(3, ⟨(.h (.gt .no)), [], []⟩), (4, ⟨(.h (.gt .no)), [], []⟩), (5, ⟨(.h .gf), [], []⟩), (7, ⟨(.h (.gt .no)), [], []⟩), (8, ⟨(.h (.gt .no)), [], []⟩), (9, ⟨(.h .gf), [], []⟩), (11, ⟨(.h (.gt .no)), [], []⟩), (12, ⟨(.h (.gt .no)), [], []⟩), (13, ⟨(.h (.gt (.int (p0.Gone.length : Int)))), [], []⟩), (14, ⟨(.h (.gt .no)), [], []⟩), (15, ⟨(.h .gf), [], []⟩)], .b true, .r [], .k ⟨[], [], [], [], [], 0, [(0, (.s [(.n 1)]))], []⟩])
            (r := (.fin (.tup [(.im (.sl 1 [])), (.im (eI .i64 1))]) [] 0)) (obs := [Ct.Ok PX 40 ⟨[(.im (eI .i64 p0.This))], [], 0, (.tup [(.im (.st [(1, (eI .i64 v1.1.Class)), (1, (eI .i64 v1.1.Tag)), (1, (eB v1.1.Made)), (1, (.sl 1 (v1.1.Body.map (eI .u8)))), (1, (.sl 5 (v1.1.Kids.map eSTlv)))])), (.im (eB v1.2))]), [], 0⟩, Ct.Ok PX 40 ⟨[(.im (eI .i64 p0.Next))], [], 0, (.tup [(.im (.st [(1, (eI .i64 v2.1.Class)), (1, (eI .i64 v2.1.Tag)), (1, (eB v2.1.Made)), (1, (.sl 1 (v2.1.Body.map (eI .u8)))), (1, (.sl 5 (v2.1.Kids.map eSTlv)))])), (.im (eB v2.2))]), [], 0⟩, Ct.Ok PX 41 ⟨[(.im (.sl 2 (p0.Issuer.map eSPart)))], [], 0, (.im (eB v3)), [], 0⟩, (!v1.2) = false, (!v1.2) = false, (!v1.2) = false, (!v2.2) = false, (!v2.2) = false, (!v2.2) = false, (!v3) = false, (!v3) = false, (!v3) = false, ((p0.Gone.map eSGone).length : Int) = (p0.Gone.length : Int), (!v3) = false, (!v3) = false, (decide ((p0.Gone.length : Int) > 64)) = true])
            (by kernel_rfl) ⟨(f40_ok k p0.This v1 h1), (f40_ok k p0.Next v2 h2), (f41_ok k p0.Issuer v3 h3), (not_f h4), (not_f h4), (not_f h4), (not_f h5), (not_f h5), (not_f h5), (not_f h6), (not_f h6), (not_f h6), (len_m eSGone _), (not_f h6), (not_f h6), (dt h7), trivial⟩ (fun fn hfn => ⟨rfl, rfl, rfl⟩)
        · rw [if_neg h7] at h
          obtain ⟨v4, h8, h⟩ := bnd h
          obtain ⟨v5, h9, h⟩ := bnd h
          obtain ⟨v6, h10, h⟩ := bnd h
          exact Ct.ofWalk hT hm F19 (by kernel_rfl) (n := 1000) (ds := [.r [], .r [(2, ⟨(.c false [] ⟨[], [], [], 0, (.tup [(.im (.st [(1, (eI .i64 v1.1.Class)), (1, (eI .i64 v1.1.Tag)), (1, (eB v1.1.Made)), (1, (.sl 1 (v1.1.Body.map (eI .u8)))), (1, (.sl 5 (v1.1.Kids.map eSTlv)))])), (.im (eB v1.2))]), [], 0, [], 1⟩), [], []⟩)], .r [(2, ⟨(.c false [] ⟨[], [], [], 0, (.tup [(.im (.st [(1, (eI .i64 v2.1.Class)), (1, (eI .i64 v2.1.Tag)), (1, (eB v2.1.Made)), (1, (.sl 1 (v2.1.Body.map (eI .u8)))), (1, (.sl 5 (v2.1.Kids.map eSTlv)))])), (.im (eB v2.2))]), [], 0, [], 2⟩), [], []⟩)], .r [(2, ⟨(.c false [] ⟨[], [], [], 0, (.im (eB v3)), [], 0, [], 3⟩), [], []⟩)], .r [(3, ⟨(.h (.gt .no)), [], []⟩), (4, ⟨(.h (.gt .no)), [], []⟩), (5, ⟨(.h .gf), [], []⟩), (7, ⟨(.h (.gt .no)), [], []⟩), (8, ⟨(.h (.gt .no)), [], []⟩), (9, ⟨(.h .gf), [], []⟩), (11, ⟨(.h (.gt .no)), [], []⟩), (12, ⟨(.h (.gt .no)), [], []⟩), (13, ⟨(.h (.gt (.int (p0.Gone.length : Int)))), [], []⟩), (14, ⟨(.h (.gt .no)), [], []⟩), (15, ⟨(.h .gf), [], []⟩)], .b false, .r [(0, ⟨(.c false [] ⟨[], [], [], 0, (.im (.st [(1, (eI .i64 v4.Class)), (1, (eI .i64 v4.Tag)), (1, (eB v4.Made)), (1, (.sl 1 (v4.Body.map (eI .u8)))), (1, (.sl 5 (v4.Kids.map eSTlv)))])), [], 0, [], 3⟩), [], []⟩), (1, ⟨(.c false [] ⟨[], [], [], 0, (.im (.st [(1, (eI .i64 v5.Class)), (1, (eI .i64 v5.Tag)), (1, (eB v5.Made)), (1, (.sl 1 (v5.Body.map (eI .u8)))), (1, (.sl 5 (v5.Kids.map eSTlv)))])), [], 0, [], 3⟩), [], []⟩), (4, ⟨(.c false [] ⟨[], [], [], 0, (.im (.st [(1, (eI .i64 v6.Class)), (1, (eI .i64 v6.Tag)), (1, (eB v6.Made)), (1, (.sl 1 (v6.Body.map (eI .u8)))), (1, (.sl 5 (v6.Kids.map eSTlv)))])), [], 0, [], 3⟩), [], []⟩)], .r [], .r [], .k ⟨[], [(10, 35, 5)], [], [1, 9, 10, 11], [(0, 0), (1, 3), (2, 4)], 3, [], [(1, (.e (.arr 0 ([v4, v5, v6, v1.1, v2.1].map eSTlv))))]⟩])
            (r := (.head cc19_0 [.blk 0, .seq cc19_1] (f19L0_S p0 [v4, v5, v6, v1.1, v2.1] [] 0))) (obs := [Ct.Ok PX 40 ⟨[(.im (eI .i64 p0.This))], [], 0, (.tup [(.im (.st [(1, (eI .i64 v1.1.Class)), (1, (eI .i64 v1.1.Tag)), (1, (eB v1.1.Made)), (1, (.sl 1 (v1.1.Body.map (eI .u8)))), (1, (.sl 5 (v1.1.Kids.map eSTlv)))])), (.im (eB v1.2))]), [], 0⟩, Ct.Ok PX 40 ⟨[(.im (eI .i64 p0.Next))], [], 0, (.tup [(.im (.st [(1, (eI .i64 v2.1.Class)), (1, (eI .i64 v2.1.Tag)), (1, (eB v2.1.Made)), (1, (.sl 1 (v2.1.Body.map (eI .u8)))), (1, (.sl 5 (v2.1.Kids.map eSTlv)))])), (.im (eB v2.2))]), [], 0⟩, Ct.Ok PX 41 ⟨[(.im (.sl 2 (p0.Issuer.map eSPart)))], [], 0, (.im (eB v3)), [], 0⟩, (!v1.2) = false, (!v1.2) = false, (!v1.2) = false, (!v2.2) = false, (!v2.2) = false, (!v2.2) = false, (!v3) = false, (!v3) = false, (!v3) = false, ((p0.Gone.map eSGone).length : Int) = (p0.Gone.length : Int), (!v3) = false, (!v3) = false, (decide ((p0.Gone.length : Int) > 64)) = false, Ct.Ok PX 42 ⟨[], [], 0, (.im (.st [(1, (eI .i64 v4.Class)), (1, (eI .i64 v4.Tag)), (1, (eB v4.Made)), (1, (.sl 1 (v4.Body.map (eI .u8)))), (1, (.sl 5 (v4.Kids.map eSTlv)))])), [], 0⟩, Ct.Ok PX 43 ⟨[], [], 0, (.im (.st [(1, (eI .i64 v5.Class)), (1, (eI .i64 v5.Tag)), (1, (eB v5.Made)), (1, (.sl 1 (v5.Body.map (eI .u8)))), (1, (.sl 5 (v5.Kids.map eSTlv)))])), [], 0⟩, Ct.Ok PX 44 ⟨[(.im (.sl 2 (p0.Issuer.map eSPart)))], [], 0, (.im (.st [(1, (eI .i64 v6.Class)), (1, (eI .i64 v6.Tag)), (1, (eB v6.Made)), (1, (.sl 1 (v6.Body.map (eI .u8)))), (1, (.sl 5 (v6.Kids.map eSTlv)))])), [], 0⟩, [(.st [(1, (eI .i64 v4.Class)), (1, (eI .i64 v4.Tag)), (1, (eB v4.Made)), (1, (.sl 1 (v4.Body.map (eI .u8)))), (1, (.sl 5 (v4.Kids.map eSTlv)))]), (.st [(1, (eI .i64 v5.Class)), (1, (eI .i64 v5.Tag)), (1, (eB v5.Made)), (1, (.sl 1 (v5.Body.map (eI .u8)))), (1, (.sl 5 (v5.Kids.map eSTlv)))]), (.st [(1, (eI .i64 v6.Class)), (1, (eI .i64 v6.Tag)), (1, (eB v6.Made)), (1, (.sl 1 (v6.Body.map (eI .u8)))), (1, (.sl 5 (v6.Kids.map eSTlv)))]), (.st [(1, (eI .i64 v1.1.Class)), (1, (eI .i64 v1.1.Tag)), (1, (eB v1.1.Made)), (1, (.sl 1 (v1.1.Body.map (eI .u8)))), (1, (.sl 5 (v1.1.Kids.map eSTlv)))]), (.st [(1, (eI .i64 v2.1.Class)), (1, (eI .i64 v2.1.Tag)), (1, (eB v2.1.Made)), (1, (.sl 1 (v2.1.Body.map (eI .u8)))), (1, (.sl 5 (v2.1.Kids.map eSTlv)))])] = ([v4, v5, v6, v1.1, v2.1].map eSTlv)])
            (by kernel_rfl) ⟨(f40_ok k p0.This v1 h1), (f40_ok k p0.Next v2 h2), (f41_ok k p0.Issuer v3 h3), (not_f h4), (not_f h4), (not_f h4), (not_f h5), (not_f h5), (not_f h5), (not_f h6), (not_f h6), (not_f h6), (len_m eSGone _), (not_f h6), (not_f h6), (df h7), (f42_ok k v4 h8), (f43_ok k v5 h9), (f44_ok k p0.Issuer v6 h10), (show [(.st [(1, (eI .i64 v4.Class)), (1, (eI .i64 v4.Tag)), (1, (eB v4.Made)), (1, (.sl 1 (v4.Body.map (eI .u8)))), (1, (.sl 5 (v4.Kids.map eSTlv)))]), (.st [(1, (eI .i64 v5.Class)), (1, (eI .i64 v5.Tag)), (1, (eB v5.Made)), (1, (.sl 1 (v5.Body.map (eI .u8)))), (1, (.sl 5 (v5.Kids.map eSTlv)))]), (.st [(1, (eI .i64 v6.Class)), (1, (eI .i64 v6.Tag)), (1, (eB v6.Made)), (1, (.sl 1 (v6.Body.map (eI .u8)))), (1, (.sl 5 (v6.Kids.map eSTlv)))]), (.st [(1, (eI .i64 v1.1.Class)), (1, (eI .i64 v1.1.Tag)), (1, (eB v1.1.Made)), (1, (.sl 1 (v1.1.Body.map (eI .u8)))), (1, (.sl 5 (v1.1.Kids.map eSTlv)))]), (.st [(1, (eI .i64 v2.1.Class)), (1, (eI .i64 v2.1.Tag)), (1, (eB v2.1.Made)), (1, (.sl 1 (v2.1.Body.map (eI .u8)))), (1, (.sl 5 (v2.1.Kids.map eSTlv)))])] = [v4, v5, v6, v1.1, v2.1].map eSTlv from by simp only [List.map_cons, List.map_nil, eSTlv_eq, STlv.Class, STlv.Tag, STlv.Made, STlv.Body, STlv.Kids]), trivial⟩ (fun fn hfn => f19L0_ok fn hfn k p0 [v4, v5, v6, v1.1, v2.1] [] 0 _ h)
      · rw [if_neg h6] at h
        replace h := Option.some.inj h; subst h
        exact Ct.ofWalk hT hm F19 (by kernel_rfl) (n := 1000) (ds := [.r [], .r [(2, ⟨(.c false [] ⟨[], [], [], 0, (.tup [(.im (.st [(1, (eI .i64 v1.1.Class)), (1, (eI .i64 v1.1.Tag)), (1, (eB v1.1.Made)), (1, (.sl 1 (v1.1.Body.map (eI .u8)))), (1, (.sl 5 (v1.1.Kids.map eSTlv)))])), (.im (eB v1.2))]), [], 0, [], 1⟩), [], []⟩)], .r [(2, ⟨(.c false [] ⟨[], [], [], 0, (.tup [(.im (.st [(1, (eI .i64 v2.1.Class)), (1, (eI .i64 v2.1.Tag)), (1, (eB v2.1.Made)), (1, (.sl 1 (v2.1.Body.map (eI .u8)))), (1, (.sl 5 (v2.1.Kids.map eSTlv)))])), (.im (eB v2.2))]), [], 0, [], 2⟩), [], []⟩)], .r [(2, ⟨(.c false [] ⟨[], [], [], 0, (.im (eB v3)), [], 0, [], 3⟩), [], []⟩)], .r [(3, ⟨(.h (.gt .no)), [], []⟩), (4, ⟨(.h (.gt .no)), [], []⟩), (5, ⟨(.h .gf), [], []⟩), (7, ⟨(.h (.gt .no)), [], []⟩), (8, ⟨(.h (.gt .no)), [], []⟩), (9, ⟨(.h .gf), [], []⟩), (11, ⟨(.h .gf), [], []⟩), (12, ⟨(.h .gf), [], []⟩), (13, ⟨(.h .gf), [], []⟩), (14, ⟨(.h .gf), [], []⟩), (15, ⟨(.h (.gt .no)), [], []⟩)], .bc true, .r [], .k ⟨[], [], [], [], [], 0, [(0, (.s [(.n 1)]))], []⟩])
          (r := (.fin (.tup [(.im (.sl 1 [])), (.im (eI .i64 1))]) [] 0)) (obs := [Ct.Ok PX 40 ⟨[(.im (eI .i64 p0.This))], [], 0, (.tup [(.im (.st [(1, (eI .i64 v1.1.Class)), (1, (eI .i64 v1.1.Tag)), (1, (eB v1.1.Made)), (1, (.sl 1 (v1.1.Body.map (eI .u8)))), (1, (.sl 5 (v1.1.Kids.map eSTlv)))])), (.im (eB v1.2))]), [], 0⟩, Ct.Ok PX 40 ⟨[(.im (eI .i64 p0.Next))], [], 0, (.tup [(.im (.st [(1, (eI .i64 v2.1.Class)), (1, (eI .i64 v2.1.Tag)), (1, (eB v2.1.Made)), (1, (.sl 1 (v2.1.Body.map (eI .u8)))), (1, (.sl 5 (v2.1.Kids.map eSTlv)))])), (.im (eB v2.2))]), [], 0⟩, Ct.Ok PX 41 ⟨[(.im (.sl 2 (p0.Issuer.map eSPart)))], [], 0, (.im (eB v3)), [], 0⟩, (!v1.2) = false, (!v1.2) = false, (!v1.2) = false, (!v2.2) = false, (!v2.2) = false, (!v2.2) = false, (!v3) = !false, (!v3) = !false, (!v3) = !false, (!v3) = !false, (!v3) = true])
          (by kernel_rfl) ⟨(f40_ok k p0.This v1 h1), (f40_ok k p0.Next v2 h2), (f41_ok k p0.Issuer v3 h3), (not_f h4), (not_f h4), (not_f h4), (not_f h5), (not_f h5), (not_f h5), (not_t (vf h6)), (not_t (vf h6)), (not_t (vf h6)), (not_t (vf h6)), (not_t (vf h6)), trivial⟩ (fun fn hfn => ⟨rfl, rfl, rfl⟩)
    · rw [if_neg h5] at h
      replace h := Option.some.inj h; subst h
      exact Ct.ofWalk hT hm F19 (by kernel_rfl) (n := 1000) (ds := [.r [], .r [(2, ⟨(.c false [] ⟨[], [], [], 0, (.tup [(.im (.st [(1, (eI .i64 v1.1.Class)), (1, (eI .i64 v1.1.Tag)), (1, (eB v1.1.Made)), (1, (.sl 1 (v1.1.Body.map (eI .u8)))), (1, (.sl 5 (v1.1.Kids.map eSTlv)))])), (.im (eB v1.2))]), [], 0, [], 1⟩), [], []⟩)], .r [(2, ⟨(.c false [] ⟨[], [], [], 0, (.tup [(.im (.st [(1, (eI .i64 v2.1.Class)), (1, (eI .i64 v2.1.Tag)), (1, (eB v2.1.Made)), (1, (.sl 1 (v2.1.Body.map (eI .u8)))), (1, (.sl 5 (v2.1.Kids.map eSTlv)))])), (.im (eB v2.2))]), [], 0, [], 2⟩), [], []⟩)], .r [(2, ⟨(.c false [] ⟨[], [], [], 0, (.im (eB v3)), [], 0, [], 3⟩), [], []⟩)], .r [(3, ⟨(.h (.gt .no)), [], []⟩), (4, ⟨(.h (.gt .no)), [], []⟩), (5, ⟨(.h .gf), [], []⟩), (7, ⟨(.h .gf), [], []⟩), (8, ⟨(.h .gf), [], []⟩), (9, ⟨(.h (.gt .no)), [], []⟩)], .bc true, .r [], .k ⟨[], [], [], [], [], 0, [(0, (.s [(.n 1)]))], []⟩])
        (r := (.fin (.tup [(.im (.sl 1 [])), (.im (eI .i64 1))]) [] 0)) (obs := [Ct.Ok PX 40 ⟨[(.im (eI .i64 p0.This))], [], 0, (.tup [(.im (.st [(1, (eI .i64 v1.1.Class)), (1, (eI .i64 v1.1.Tag)), (1, (eB v1.1.Made)), (1, (.sl 1 (v1.1.Body.map (eI .u8)))), (1, (.sl 5 (v1.1.Kids.map eSTlv)))])), (.im (eB v1.2))]), [], 0⟩, Ct.Ok PX 40 ⟨[(.im (eI .i64 p0.Next))], [], 0, (.tup [(.im (.st [(1, (eI .i64 v2.1.Class)), (1, (eI .i64 v2.1.Tag)), (1, (eB v2.1.Made)), (1, (.sl 1 (v2.1.Body.map (eI .u8)))), (1, (.sl 5 (v2.1.Kids.map eSTlv)))])), (.im (eB v2.2))]), [], 0⟩, Ct.Ok PX 41 ⟨[(.im (.sl 2 (p0.Issuer.map eSPart)))], [], 0, (.im (eB v3)), [], 0⟩, (!v1.2) = false, (!v1.2) = false, (!v1.2) = false, (!v2.2) = !false, (!v2.2) = !false, (!v2.2) = true])
        (by kernel_rfl) ⟨(f40_ok k p0.This v1 h1), (f40_ok k p0.Next v2 h2), (f41_ok k p0.Issuer v3 h3), (not_f h4), (not_f h4), (not_f h4), (not_t (vf h5)), (not_t (vf h5)), (not_t (vf h5)), trivial⟩ (fun fn hfn => ⟨rfl, rfl, rfl⟩)
  · rw [if_neg h4] at h
    replace h := Option.some.inj h; subst h
    exact Ct.ofWalk hT hm F19 (by kernel_rfl) (n := 1000) (ds := [.r [], .r [(2, ⟨(.c false [] ⟨[], [], [], 0, (.tup [(.im (.st [(1, (eI .i64 v1.1.Class)), (1, (eI .i64 v1.1.Tag)), (1, (eB v1.1.Made)), (1, (.sl 1 (v1.1.Body.map (eI .u8)))), (1, (.sl 5 (v1.1.Kids.map eSTlv)))])), (.im (eB v1.2))]), [], 0, [], 1⟩), [], []⟩)], .r [(2, ⟨(.c false [] ⟨[], [], [], 0, (.tup [(.im (.st [(1, (eI .i64 v2.1.Class)), (1, (eI .i64 v2.1.Tag)), (1, (eB v2.1.Made)), (1, (.sl 1 (v2.1.Body.map (eI .u8)))), (1, (.sl 5 (v2.1.Kids.map eSTlv)))])), (.im (eB v2.2))]), [], 0, [], 2⟩), [], []⟩)], .r [(2, ⟨(.c false [] ⟨[], [], [], 0, (.im (eB v3)), [], 0, [], 3⟩), [], []⟩)], .r [(3, ⟨(.h .gf), [], []⟩), (4, ⟨(.h .gf), [], []⟩), (5, ⟨(.h (.gt .no)), [], []⟩)], .bc true, .r [], .k ⟨[], [], [], [], [], 0, [(0, (.s [(.n 1)]))], []⟩])
      (r := (.fin (.tup [(.im (.sl 1 [])), (.im (eI .i64 1))]) [] 0)) (obs := [Ct.Ok PX 40 ⟨[(.im (eI .i64 p0.This))], [], 0, (.tup [(.im (.st [(1, (eI .i64 v1.1.Class)), (1, (eI .i64 v1.1.Tag)), (1, (eB v1.1.Made)), (1, (.sl 1 (v1.1.Body.map (eI .u8)))), (1, (.sl 5 (v1.1.Kids.map eSTlv)))])), (.im (eB v1.2))]), [], 0⟩, Ct.Ok PX 40 ⟨[(.im (eI .i64 p0.Next))], [], 0, (.tup [(.im (.st [(1, (eI .i64 v2.1.Class)), (1, (eI .i64 v2.1.Tag)), (1, (eB v2.1.Made)), (1, (.sl 1 (v2.1.Body.map (eI .u8)))), (1, (.sl 5 (v2.1.Kids.map eSTlv)))])), (.im (eB v2.2))]), [], 0⟩, Ct.Ok PX 41 ⟨[(.im (.sl 2 (p0.Issuer.map eSPart)))], [], 0, (.im (eB v3)), [], 0⟩, (!v1.2) = !false, (!v1.2) = !false, (!v1.2) = true])
      (by kernel_rfl) ⟨(f40_ok k p0.This v1 h1), (f40_ok k p0.Next v2 h2), (f41_ok k p0.Issuer v3 h3), (not_t (vf h4)), (not_t (vf h4)), (not_t (vf h4)), trivial⟩ (fun fn hfn => ⟨rfl, rfl, rfl⟩)
end Go.Proofs.Tryd.E
end

section
namespace Go.Proofs.Tryd.E
open Go Go.Eng
set_option maxRecDepth 100000
set_option linter.unusedVariables false
def f61 (k : Nat) (p0 : Int) (p1 : Er) : Option (Er) :=
  Er.on p1 (
   none)
   (fun v1 =>
   some (Er.spot p0 v1))
   (fun v1 v2 =>
   none)

theorem f61_ok (k : Nat) : ∀ (p0 : Int) (p1 : Er) (r : Er), f61 k p0 p1 = some r → Ct.Ok PX 61 ⟨[(.im (eI .i64 p0)), (.im (eEr p1))], [], 0, (.im (eEr r)), [], 0⟩ := by
  intro p0 p1 r h
  unfold f61 at h
  rcases h1 : p1 with _ | v1 | ⟨v1, v2⟩
  · rw [h1] at h; dsimp only [Er.on] at h
    cases h
  · rw [h1] at h; dsimp only [Er.on] at h
    replace h := Option.some.inj h; subst h
    exact Ct.ofWalk hT hm F61 (by kernel_rfl) (n := 1000) (ds := [.r [], .r [], .k ⟨[], [], [0], [], [], 0, [], []⟩])
      (r := (.fin (.im (.ifc 77 (.pim 2 (.st [(1, (eI .i64 p0)), (1, (.ifc 40 (eI .i64 v1)))])))) [] 0)) (obs := [])
      (by kernel_rfl) trivial (fun fn hfn => ⟨rfl, rfl, rfl⟩)
  · rw [h1] at h; dsimp only [Er.on] at h
    cases h
end Go.Proofs.Tryd.E
end

section
namespace Go.Proofs.Tryd.E
open Go Go.Eng
set_option maxRecDepth 100000
set_option linter.unusedVariables false
def f108L0_S (p0 : SReader) (p1 : Int) (p2 : Int) (x2 : Int) (x4 : Int) (x5 : (List Int)) (x6 : Int) (x7 : Int) : S := ⟨[(1, (.im (eI .i64 p1))), (2, (.im (eI .i64 p2))), (3, (.ref 0 [])), (9, (.im (eI .i64 x2))), (10, (.im (eI .i64 (IntKind.wrap .i64 (p1 + 1))))), (11, (.im (eI .i64 x4))), (57, (.im (.sl 1 (x5.map (eI .u8))))), (58, (.im (eI .i64 x6))), (59, (.im (eI .i64 x7)))], [(0, (.box false 1 (.im (.st [(1, (.sl 1 (p0.b.map (eI .u8))))]))))], 1⟩

def f108L0 : Nat → SReader → Int → Int → Int → Int → (List Int) → Int → Int → Option (Int × Int × Er)
  | 0, _, _, _, _, _, _, _, _ => none
  | k + 1, p0, p1, p2, x2, x4, x5, x6, x7 =>
    if x7 < x6 then (
     (rd x5 x7).bind fun v1 =>
     f108L0 k p0 p1 p2 (bitI .or .i64 (shlI .i64 x2 8) (IntKind.wrap .i64 v1)) x4 x5 x6 (IntKind.wrap .i64 (x7 + 1)))
    else (
     (rd p0.b (IntKind.wrap .i64 (p1 + 1))).bind fun v1 =>
     if v1 = 0 then (
      (f61 k p1 (Er.code 7)).bind fun v2 =>
      Er.on v2 (
       some (0, 0, Er.nil))
       (fun v3 =>
       some (0, 0, (Er.code v3)))
       (fun v3 v4 =>
       some (0, 0, (Er.spot v3 v4))))
     else (
      if x2 < 128 then (
       (f61 k p1 (Er.code 7)).bind fun v2 =>
       Er.on v2 (
        some (0, 0, Er.nil))
        (fun v3 =>
        some (0, 0, (Er.code v3)))
        (fun v3 v4 =>
        some (0, 0, (Er.spot v3 v4))))
      else (
       if x2 > (IntKind.wrap .i64 (p2 - (IntKind.wrap .i64 ((IntKind.wrap .i64 (p1 + 1)) + x4)))) then (
        (f61 k p1 (Er.code 6)).bind fun v2 =>
        Er.on v2 (
         some (0, 0, Er.nil))
         (fun v3 =>
         some (0, 0, (Er.code v3)))
         (fun v3 v4 =>
         some (0, 0, (Er.spot v3 v4))))
       else (
        some ((IntKind.wrap .i64 ((IntKind.wrap .i64 (p1 + 1)) + x4)), (IntKind.wrap .i64 ((IntKind.wrap .i64 ((IntKind.wrap .i64 (p1 + 1)) + x4)) + x2)), Er.nil)))))

def f108L0_P (k : Nat) : Prop := ∀ (fn : Func) (_ : fn.results = ([.t 6, .t 7, .t 8].map Rv.var).toArray), ∀ (p0 : SReader) (p1 : Int) (p2 : Int) (x2 : Int) (x4 : Int) (x5 : (List Int)) (x6 : Int) (x7 : Int) (r : Int × Int × Er), f108L0 k p0 p1 p2 x2 x4 x5 x6 x7 = some r → LH PX ⟨fn, 97, 0, (.tup [(.im (eI .i64 r.1)), (.im (eI .i64 r.2.1)), (.im (eEr r.2.2))]), [], 0⟩ cc108_0 [.blk 1, .seq cc108_1, .blk 0, .seq cc108_2] (f108L0_S p0 p1 p2 x2 x4 x5 x6 x7)

theorem f108L0_step (k : Nat) (ih_f108L0 : f108L0_P k) : f108L0_P (k + 1) := by
  intro fn hfn p0 p1 p2 x2 x4 x5 x6 x7 r h
  rw [f108L0] at h
  by_cases h1 : x7 < x6
  · rw [if_pos h1] at h
    obtain ⟨v1, h2, h⟩ := bnd h
    exact LH.round hT hm hfn (n := 1000) (ds := [.r [], .b true, .r [(0, ⟨(.h (.iv (eI .u8 v1))), [], []⟩)], .r [], .r [], .k ⟨[], [], [], [1, 2, 3, 9, 10, 11, 57, 58, 59], [(0, 0)], 1, [], []⟩])
      (r := (.head cc108_0 [.blk 1, .seq cc108_1, .blk 0, .seq cc108_2] (f108L0_S p0 p1 p2 (bitI .or .i64 (shlI .i64 x2 8) (IntKind.wrap .i64 v1)) x4 x5 x6 (IntKind.wrap .i64 (x7 + 1))))) (obs := [(decide (x7 < x6)) = true, 0 ≤ x7, (x5.map (eI .u8))[(x7).toNat]? = some (eI .u8 v1)])
      (by kernel_rfl) ⟨(dt h1), (rd_nn h2), (rd_map (eI .u8) h2), trivial⟩ (ih_f108L0 fn hfn p0 p1 p2 (bitI .or .i64 (shlI .i64 x2 8) (IntKind.wrap .i64 v1)) x4 x5 x6 (IntKind.wrap .i64 (x7 + 1)) _ h)
  · rw [if_neg h1] at h
    obtain ⟨v1, h2, h⟩ := bnd h
    by_cases h3 : v1 = 0
    · rw [if_pos h3] at h
      obtain ⟨v2, h4, h⟩ := bnd h
      rcases h5 : v2 with _ | v3 | ⟨v3, v4⟩
      · rw [h5] at h; dsimp only [Er.on] at h
        replace h := Option.some.inj h; subst h
        exact LH.round hT hm hfn (n := 1000) (ds := [.r [], .b false, .r [(3, ⟨(.h (.iv (eI .u8 v1))), [], []⟩), (7, ⟨(.h .gf), [], []⟩), (8, ⟨(.h .gf), [], []⟩), (9, ⟨(.h (.gt .no)), [], []⟩)], .bc true, .r [(2, ⟨(.c false [] ⟨[], [], [], 0, (.im (.v .nilIface)), [], 0, [], 1⟩), [], []⟩)], .k ⟨[], [], [], [], [], 0, [], []⟩])
          (r := (.fin (.tup [(.im (eI .i64 0)), (.im (eI .i64 0)), (.im (.v .nilIface))]) [] 0)) (obs := [(decide (x7 < x6)) = false, 0 ≤ (IntKind.wrap .i64 (p1 + 1)), (p0.b.map (eI .u8))[((IntKind.wrap .i64 (p1 + 1))).toNat]? = some (eI .u8 v1), (v1 == 0) = !false, (v1 == 0) = !false, (v1 == 0) = true, Ct.Ok PX 61 ⟨[(.im (eI .i64 p1)), (.im (.ifc 40 (eI .i64 7)))], [], 0, (.im (.v .nilIface)), [], 0⟩])
          (by kernel_rfl) ⟨(df h1), (rd_nn h2), (rd_map (eI .u8) h2), (bt h3), (bt h3), (bt h3), (by have q := (f61_ok k p1 (Er.code 7) v2 h4); rw [h5] at q; exact q), trivial⟩ ⟨rfl, rfl, rfl⟩
      · rw [h5] at h; dsimp only [Er.on] at h
        replace h := Option.some.inj h; subst h
        exact LH.round hT hm hfn (n := 1000) (ds := [.r [], .b false, .r [(3, ⟨(.h (.iv (eI .u8 v1))), [], []⟩), (7, ⟨(.h .gf), [], []⟩), (8, ⟨(.h .gf), [], []⟩), (9, ⟨(.h (.gt .no)), [], []⟩)], .bc true, .r [(2, ⟨(.c false [] ⟨[], [], [], 0, (.im (.ifc 40 (eI .i64 v3))), [], 0, [], 1⟩), [], []⟩)], .k ⟨[], [], [], [], [], 0, [], []⟩])
          (r := (.fin (.tup [(.im (eI .i64 0)), (.im (eI .i64 0)), (.im (.ifc 40 (eI .i64 v3)))]) [] 0)) (obs := [(decide (x7 < x6)) = false, 0 ≤ (IntKind.wrap .i64 (p1 + 1)), (p0.b.map (eI .u8))[((IntKind.wrap .i64 (p1 + 1))).toNat]? = some (eI .u8 v1), (v1 == 0) = !false, (v1 == 0) = !false, (v1 == 0) = true, Ct.Ok PX 61 ⟨[(.im (eI .i64 p1)), (.im (.ifc 40 (eI .i64 7)))], [], 0, (.im (.ifc 40 (eI .i64 v3))), [], 0⟩])
          (by kernel_rfl) ⟨(df h1), (rd_nn h2), (rd_map (eI .u8) h2), (bt h3), (bt h3), (bt h3), (by have q := (f61_ok k p1 (Er.code 7) v2 h4); rw [h5] at q; exact q), trivial⟩ ⟨rfl, rfl, rfl⟩
      · rw [h5] at h; dsimp only [Er.on] at h
        replace h := Option.some.inj h; subst h
        exact LH.round hT hm hfn (n := 1000) (ds := [.r [], .b false, .r [(3, ⟨(.h (.iv (eI .u8 v1))), [], []⟩), (7, ⟨(.h .gf), [], []⟩), (8, ⟨(.h .gf), [], []⟩), (9, ⟨(.h (.gt .no)), [], []⟩)], .bc true, .r [(2, ⟨(.c false [] ⟨[], [], [], 0, (.im (.ifc 77 (.pim 2 (.st [(1, (eI .i64 v3)), (1, (.ifc 40 (eI .i64 v4)))])))), [], 0, [], 1⟩), [], []⟩)], .k ⟨[], [], [], [], [], 0, [], []⟩])
          (r := (.fin (.tup [(.im (eI .i64 0)), (.im (eI .i64 0)), (.im (.ifc 77 (.pim 2 (.st [(1, (eI .i64 v3)), (1, (.ifc 40 (eI .i64 v4)))]))))]) [] 0)) (obs := [(decide (x7 < x6)) = false, 0 ≤ (IntKind.wrap .i64 (p1 + 1)), (p0.b.map (eI .u8))[((IntKind.wrap .i64 (p1 + 1))).toNat]? = some (eI .u8 v1), (v1 == 0) = !false, (v1 == 0) = !false, (v1 == 0) = true, Ct.Ok PX 61 ⟨[(.im (eI .i64 p1)), (.im (.ifc 40 (eI .i64 7)))], [], 0, (.im (.ifc 77 (.pim 2 (.st [(1, (eI .i64 v3)), (1, (.ifc 40 (eI .i64 v4)))])))), [], 0⟩])
          (by kernel_rfl) ⟨(df h1), (rd_nn h2), (rd_map (eI .u8) h2), (bt h3), (bt h3), (bt h3), (by have q := (f61_ok k p1 (Er.code 7) v2 h4); rw [h5] at q; exact q), trivial⟩ ⟨rfl, rfl, rfl⟩
    · rw [if_neg h3] at h
      by_cases h4 : x2 < 128
      · rw [if_pos h4] at h
        obtain ⟨v2, h5, h⟩ := bnd h
        rcases h6 : v2 with _ | v3 | ⟨v3, v4⟩
        · rw [h6] at h; dsimp only [Er.on] at h
          replace h := Option.some.inj h; subst h
          exact LH.round hT hm hfn (n := 1000) (ds := [.r [], .b false, .r [(3, ⟨(.h (.iv (eI .u8 v1))), [], []⟩), (7, ⟨(.h (.gt .no)), [], []⟩), (8, ⟨(.h (.gt .no)), [], []⟩), (9, ⟨(.h .gf), [], []⟩)], .b true, .r [(2, ⟨(.c false [] ⟨[], [], [], 0, (.im (.v .nilIface)), [], 0, [], 1⟩), [], []⟩)], .k ⟨[], [], [], [], [], 0, [], []⟩])
            (r := (.fin (.tup [(.im (eI .i64 0)), (.im (eI .i64 0)), (.im (.v .nilIface))]) [] 0)) (obs := [(decide (x7 < x6)) = false, 0 ≤ (IntKind.wrap .i64 (p1 + 1)), (p0.b.map (eI .u8))[((IntKind.wrap .i64 (p1 + 1))).toNat]? = some (eI .u8 v1), (v1 == 0) = false, (v1 == 0) = false, (v1 == 0) = false, (decide (x2 < 128)) = true, Ct.Ok PX 61 ⟨[(.im (eI .i64 p1)), (.im (.ifc 40 (eI .i64 7)))], [], 0, (.im (.v .nilIface)), [], 0⟩])
            (by kernel_rfl) ⟨(df h1), (rd_nn h2), (rd_map (eI .u8) h2), (bf h3), (bf h3), (bf h3), (dt h4), (by have q := (f61_ok k p1 (Er.code 7) v2 h5); rw [h6] at q; exact q), trivial⟩ ⟨rfl, rfl, rfl⟩
        · rw [h6] at h; dsimp only [Er.on] at h
          replace h := Option.some.inj h; subst h
          exact LH.round hT hm hfn (n := 1000) (ds := [.r [], .b false, .r [(3, ⟨(.h (.iv (eI .u8 v1))), [], []⟩), (7, ⟨(.h (.gt .no)), [], []⟩), (8, ⟨(.h (.gt .no)), [], []⟩), (9, ⟨(.h .gf), [], []⟩)], .b true, .r [(2, ⟨(.c false [] ⟨[], [], [], 0, (.im (.ifc 40 (eI .i64 v3))), [], 0, [], 1⟩), [], []⟩)], .k ⟨[], [], [], [], [], 0, [], []⟩])
            (r := (.fin (.tup [(.im (eI .i64 0)), (.im (eI .i64 0)), (.im (.ifc 40 (eI .i64 v3)))]) [] 0)) (obs := [(decide (x7 < x6)) = false, 0 ≤ (IntKind.wrap .i64 (p1 + 1)), (p0.b.map (eI .u8))[((IntKind.wrap .i64 (p1 + 1))).toNat]? = some (eI .u8 v1), (v1 == 0) = false, (v1 == 0) = false, (v1 == 0) = false, (decide (x2 < 128)) = true, Ct.Ok PX 61 ⟨[(.im (eI .i64 p1)), (.im (.ifc 40 (eI .i64 7)))], [], 0, (.im (.ifc 40 (eI .i64 v3))), [], 0⟩])
            (by kernel_rfl) ⟨(df h1), (rd_nn h2), (rd_map (eI .u8) h2), (bf h3), (bf h3), (bf h3), (dt h4), (by have q := (f61_ok k p1 (Er.code 7) v2 h5); rw [h6] at q; exact q), trivial⟩ ⟨rfl, rfl, rfl⟩
        · rw [h6] at h; dsimp only [Er.on] at h
          replace h := Option.some.inj h; subst h
          exact LH.round hT hm hfn (n := 1000) (ds := [.r [], .b false, .r [(3, ⟨(.h (.iv (eI .u8 v1))), [], []⟩), (7, ⟨(.h (.gt .no)), [], []⟩), (8, ⟨(.h (.gt .no)), [], []⟩), (9, ⟨(.h .gf), [], []⟩)], .b true, .r [(2, ⟨(.c false [] ⟨[], [], [], 0, (.im (.ifc 77 (.pim 2 (.st [(1, (eI .i64 v3)), (1, (.ifc 40 (eI .i64 v4)))])))), [], 0, [], 1⟩), [], []⟩)], .k ⟨[], [], [], [], [], 0, [], []⟩])
            (r := (.fin (.tup [(.im (eI .i64 0)), (.im (eI .i64 0)), (.im (.ifc 77 (.pim 2 (.st [(1, (eI .i64 v3)), (1, (.ifc 40 (eI .i64 v4)))]))))]) [] 0)) (obs := [(decide (x7 < x6)) = false, 0 ≤ (IntKind.wrap .i64 (p1 + 1)), (p0.b.map (eI .u8))[((IntKind.wrap .i64 (p1 + 1))).toNat]? = some (eI .u8 v1), (v1 == 0) = false, (v1 == 0) = false, (v1 == 0) = false, (decide (x2 < 128)) = true, Ct.Ok PX 61 ⟨[(.im (eI .i64 p1)), (.im (.ifc 40 (eI .i64 7)))], [], 0, (.im (.ifc 77 (.pim 2 (.st [(1, (eI .i64 v3)), (1, (.ifc 40 (eI .i64 v4)))])))), [], 0⟩])
            (by kernel_rfl) ⟨(df h1), (rd_nn h2), (rd_map (eI .u8) h2), (bf h3), (bf h3), (bf h3), (dt h4), (by have q := (f61_ok k p1 (Er.code 7) v2 h5); rw [h6] at q; exact q), trivial⟩ ⟨rfl, rfl, rfl⟩
      · rw [if_neg h4] at h
        by_cases h5 : x2 > (IntKind.wrap .i64 (p2 - (IntKind.wrap .i64 ((IntKind.wrap .i64 (p1 + 1)) + x4))))
        · rw [if_pos h5] at h
          obtain ⟨v2, h6, h⟩ := bnd h
          rcases h7 : v2 with _ | v3 | ⟨v3, v4⟩
          · rw [h7] at h; dsimp only [Er.on] at h
            replace h := Option.some.inj h; subst h
            exact LH.round hT hm hfn (n := 1000) (ds := [.r [], .b false, .r [(3, ⟨(.h (.iv (eI .u8 v1))), [], []⟩), (7, ⟨(.h (.gt .no)), [], []⟩), (8, ⟨(.h (.gt .no)), [], []⟩), (9, ⟨(.h .gf), [], []⟩)], .b false, .r [], .r [], .b true, .r [(2, ⟨(.c false [] ⟨[], [], [], 0, (.im (.v .nilIface)), [], 0, [], 1⟩), [], []⟩)], .k ⟨[], [], [], [], [], 0, [], []⟩])
              (r := (.fin (.tup [(.im (eI .i64 0)), (.im (eI .i64 0)), (.im (.v .nilIface))]) [] 0)) (obs := [(decide (x7 < x6)) = false, 0 ≤ (IntKind.wrap .i64 (p1 + 1)), (p0.b.map (eI .u8))[((IntKind.wrap .i64 (p1 + 1))).toNat]? = some (eI .u8 v1), (v1 == 0) = false, (v1 == 0) = false, (v1 == 0) = false, (decide (x2 < 128)) = false, (decide (x2 > (IntKind.wrap .i64 (p2 - (IntKind.wrap .i64 ((IntKind.wrap .i64 (p1 + 1)) + x4)))))) = true, Ct.Ok PX 61 ⟨[(.im (eI .i64 p1)), (.im (.ifc 40 (eI .i64 6)))], [], 0, (.im (.v .nilIface)), [], 0⟩])
              (by kernel_rfl) ⟨(df h1), (rd_nn h2), (rd_map (eI .u8) h2), (bf h3), (bf h3), (bf h3), (df h4), (dt h5), (by have q := (f61_ok k p1 (Er.code 6) v2 h6); rw [h7] at q; exact q), trivial⟩ ⟨rfl, rfl, rfl⟩
          · rw [h7] at h; dsimp only [Er.on] at h
            replace h := Option.some.inj h; subst h
            exact LH.round hT hm hfn (n := 1000) (ds := [.r [], .b false, .r [(3, ⟨(.h (.iv (eI .u8 v1))), [], []⟩), (7, ⟨(.h (.gt .no)), [], []⟩), (8, ⟨(.h (.gt .no)), [], []⟩), (9, ⟨(.h .gf), [], []⟩)], .b false, .r [], .r [], .b true, .r [(2, ⟨(.c false [] ⟨[], [], [], 0, (.im (.ifc 40 (eI .i64 v3))), [], 0, [], 1⟩), [], []⟩)], .k ⟨[], [], [], [], [], 0, [], []⟩])
              (r := (.fin (.tup [(.im (eI .i64 0)), (.im (eI .i64 0)), (.im (.ifc 40 (eI .i64 v3)))]) [] 0)) (obs := [(decide (x7 < x6)) = false, 0 ≤ (IntKind.wrap .i64 (p1 + 1)), (p0.b.map (eI .u8))[((IntKind.wrap .i64 (p1 + 1))).toNat]? = some (eI .u8 v1), (v1 == 0) = false, (v1 == 0) = false, (v1 == 0) = false, (decide (x2 < 128)) = false, (decide (x2 > (IntKind.wrap .i64 (p2 - (IntKind.wrap .i64 ((IntKind.wrap .i64 (p1 + 1)) + x4)))))) = true, Ct.Ok PX 61 ⟨[(.im (eI .i64 p1)), (.im (.ifc 40 (eI .i64 6)))], [], 0, (.im (.ifc 40 (eI .i64 v3))), [], 0⟩])
              (by kernel_rfl) ⟨(df h1), (rd_nn h2), (rd_map (eI .u8) h2), (bf h3), (bf h3), (bf h3), (df h4), (dt h5), (by have q := (f61_ok k p1 (Er.code 6) v2 h6); rw [h7] at q; exact q), trivial⟩ ⟨rfl, rfl, rfl⟩
          · rw [h7] at h; dsimp only [Er.on] at h
            replace h := Option.some.inj h; subst h
            exact LH.round hT hm hfn (n := 1000) (ds := [.r [], .b false, .r [(3, ⟨(.h (.iv (eI .u8 v1))), [], []⟩), (7, ⟨(.h (.gt .no)), [], []⟩), (8, ⟨(.h (.gt .no)), [], []⟩), (9, ⟨(.h .gf), [], []⟩)], .b false, .r [], .r [], .b true, .r [(2, ⟨(.c false [] ⟨[], [], [], 0, (.im (.ifc 77 (.pim 2 (.st [(1, (eI .i64 v3)), (1, (.ifc 40 (eI .i64 v4)))])))), [], 0, [], 1⟩), [], []⟩)], .k ⟨[], [], [], [], [], 0, [], []⟩])
              (r := (.fin (.tup [(.im (eI .i64 0)), (.im (eI .i64 0)), (.im (.ifc 77 (.pim 2 (.st [(1, (eI .i64 v3)), (1, (.ifc 40 (eI .i64 v4)))]))))]) [] 0)) (obs := [(decide (x7 < x6)) = false, 0 ≤ (IntKind.wrap .i64 (p1 + 1)), (p0.b.map (eI .u8))[((IntKind.wrap .i64 (p1 + 1))).toNat]? = some (eI .u8 v1), (v1 == 0) = false, (v1 == 0) = false, (v1 == 0) = false, (decide (x2 < 128)) = false, (decide (x2 > (IntKind.wrap .i64 (p2 - (IntKind.wrap .i64 ((IntKind.wrap .i64 (p1 + 1)) + x4)))))) = true, Ct.Ok PX 61 ⟨[(.im (eI .i64 p1)), (.im (.ifc 40 (eI .i64 6)))], [], 0, (.im (.ifc 77 (.pim 2 (.st [(1, (eI .i64 v3)), (1, (.ifc 40 (eI .i64 v4)))])))), [], 0⟩])
              (by kernel_rfl) ⟨(df h1), (rd_nn h2), (rd_map (eI .u8) h2), (bf h3), (bf h3), (bf h3), (df h4), (dt h5), (by have q := (f61_ok k p1 (Er.code 6) v2 h6); rw [h7] at q; exact q), trivial⟩ ⟨rfl, rfl, rfl⟩
        · rw [if_neg h5] at h
          replace h := Option.some.inj h; subst h
          exact LH.round hT hm hfn (n := 1000) (ds := [.r [], .b false, .r [(3, ⟨(.h (.iv (eI .u8 v1))), [], []⟩), (7, ⟨(.h (.gt .no)), [], []⟩), (8, ⟨(.h (.gt .no)), [], []⟩), (9, ⟨(.h .gf), [], []⟩)], .b false, .r [], .r [], .b false, .r [], .k ⟨[], [], [], [], [], 0, [], []⟩])
            (r := (.fin (.tup [(.im (eI .i64 (IntKind.wrap .i64 ((IntKind.wrap .i64 (p1 + 1)) + x4)))), (.im (eI .i64 (IntKind.wrap .i64 ((IntKind.wrap .i64 ((IntKind.wrap .i64 (p1 + 1)) + x4)) + x2)))), (.im (.v .nilIface))]) [] 0)) (obs := [(decide (x7 < x6)) = false, 0 ≤ (IntKind.wrap .i64 (p1 + 1)), (p0.b.map (eI .u8))[((IntKind.wrap .i64 (p1 + 1))).toNat]? = some (eI .u8 v1), (v1 == 0) = false, (v1 == 0) = false, (v1 == 0) = false, (decide (x2 < 128)) = false, (decide (x2 > (IntKind.wrap .i64 (p2 - (IntKind.wrap .i64 ((IntKind.wrap .i64 (p1 + 1)) + x4)))))) = false])
            (by kernel_rfl) ⟨(df h1), (rd_nn h2), (rd_map (eI .u8) h2), (bf h3), (bf h3), (bf h3), (df h4), (df h5), trivial⟩ ⟨rfl, rfl, rfl⟩

theorem f108L0_all : ∀ k, f108L0_P k
  | 0 => (by intro fn hfn _ _ _ _ _ _ _ _ r h; rw [f108L0] at h; cases h)
  | k + 1 => f108L0_step k (f108L0_all k)

theorem f108L0_ok (fn : Func) (hfn : fn.results = ([.t 6, .t 7, .t 8].map Rv.var).toArray) (k : Nat) : ∀ (p0 : SReader) (p1 : Int) (p2 : Int) (x2 : Int) (x4 : Int) (x5 : (List Int)) (x6 : Int) (x7 : Int) (r : Int × Int × Er), f108L0 k p0 p1 p2 x2 x4 x5 x6 x7 = some r → LH PX ⟨fn, 97, 0, (.tup [(.im (eI .i64 r.1)), (.im (eI .i64 r.2.1)), (.im (eEr r.2.2))]), [], 0⟩ cc108_0 [.blk 1, .seq cc108_1, .blk 0, .seq cc108_2] (f108L0_S p0 p1 p2 x2 x4 x5 x6 x7) := (f108L0_all k) fn hfn
end Go.Proofs.Tryd.E
end

section
namespace Go.Proofs.Tryd.E
open Go Go.Eng
set_option maxRecDepth 100000
set_option linter.unusedVariables false
def f108 (k : Nat) (p0 : SReader) (p1 : Int) (p2 : Int) : Option (Int × Int × Er) :=
  if p1 ≥ p2 then (
   (f61 k p1 (Er.code 6)).bind fun v1 =>
   Er.on v1 (
    some (0, 0, Er.nil))
    (fun v2 =>
    some (0, 0, (Er.code v2)))
    (fun v2 v3 =>
    some (0, 0, (Er.spot v2 v3))))
  else (
   (rd p0.b p1).bind fun v1 =>
   if (IntKind.wrap .i64 v1) = 128 then (
    (f61 k p1 (Er.code 7)).bind fun v2 =>
    Er.on v2 (
     some (0, 0, Er.nil))
     (fun v3 =>
     some (0, 0, (Er.code v3)))
     (fun v3 v4 =>
     some (0, 0, (Er.spot v3 v4))))
   else (
    if (IntKind.wrap .i64 v1) > 131 then (
     (f61 k p1 (Er.code 7)).bind fun v2 =>
     Er.on v2 (
      some (0, 0, Er.nil))
      (fun v3 =>
      some (0, 0, (Er.code v3)))
      (fun v3 v4 =>
      some (0, 0, (Er.spot v3 v4))))
    else (
     if (IntKind.wrap .i64 v1) > 128 then (
      if (IntKind.wrap .i64 ((IntKind.wrap .i64 v1) - 128)) > (IntKind.wrap .i64 (p2 - (IntKind.wrap .i64 (p1 + 1)))) then (
       (f61 k p1 (Er.code 6)).bind fun v2 =>
       Er.on v2 (
        some (0, 0, Er.nil))
        (fun v3 =>
        some (0, 0, (Er.code v3)))
        (fun v3 v4 =>
        some (0, 0, (Er.spot v3 v4))))
      else (
       (sl p0.b (IntKind.wrap .i64 (p1 + 1)) (IntKind.wrap .i64 ((IntKind.wrap .i64 (p1 + 1)) + (IntKind.wrap .i64 ((IntKind.wrap .i64 v1) - 128))))).bind fun v2 =>
       f108L0 k p0 p1 p2 0 (IntKind.wrap .i64 ((IntKind.wrap .i64 v1) - 128)) v2 (v2.length : Int) 0))
     else (
      if (IntKind.wrap .i64 v1) > (IntKind.wrap .i64 (p2 - (IntKind.wrap .i64 (p1 + 1)))) then (
       (f61 k p1 (Er.code 6)).bind fun v2 =>
       Er.on v2 (
        some (0, 0, Er.nil))
        (fun v3 =>
        some (0, 0, (Er.code v3)))
        (fun v3 v4 =>
        some (0, 0, (Er.spot v3 v4))))
      else (
       some ((IntKind.wrap .i64 (p1 + 1)), (IntKind.wrap .i64 ((IntKind.wrap .i64 (p1 + 1)) + (IntKind.wrap .i64 v1))), Er.nil))))))

theorem f108_ok (k : Nat) : ∀ (p0 : SReader) (p1 : Int) (p2 : Int) (r : Int × Int × Er), f108 k p0 p1 p2 = some r → Ct.Ok PX 108 ⟨[(.im (.st [(1, (.sl 1 (p0.b.map (eI .u8))))])), (.im (eI .i64 p1)), (.im (eI .i64 p2))], [], 0, (.tup [(.im (eI .i64 r.1)), (.im (eI .i64 r.2.1)), (.im (eEr r.2.2))]), [], 0⟩ := by
  intro p0 p1 p2 r h
  unfold f108 at h
  by_cases h1 : p1 ≥ p2
  · rw [if_pos h1] at h
    obtain ⟨v1, h2, h⟩ := bnd h
    rcases h3 : v1 with _ | v2 | ⟨v2, v3⟩
    · rw [h3] at h; dsimp only [Er.on] at h
      replace h := Option.some.inj h; subst h
      exact Ct.ofWalk hT hm F108 (by kernel_rfl) (n := 1000) (ds := [.r [], .r [], .b true, .r [(2, ⟨(.c false [] ⟨[], [], [], 0, (.im (.v .nilIface)), [], 0, [], 1⟩), [], []⟩)], .k ⟨[], [], [], [], [], 0, [], []⟩])
        (r := (.fin (.tup [(.im (eI .i64 0)), (.im (eI .i64 0)), (.im (.v .nilIface))]) [] 0)) (obs := [(decide (p1 ≥ p2)) = true, Ct.Ok PX 61 ⟨[(.im (eI .i64 p1)), (.im (.ifc 40 (eI .i64 6)))], [], 0, (.im (.v .nilIface)), [], 0⟩])
        (by kernel_rfl) ⟨(dt h1), (by have q := (f61_ok k p1 (Er.code 6) v1 h2); rw [h3] at q; exact q), trivial⟩ (fun fn hfn => ⟨rfl, rfl, rfl⟩)
    · rw [h3] at h; dsimp only [Er.on] at h
      replace h := Option.some.inj h; subst h
      exact Ct.ofWalk hT hm F108 (by kernel_rfl) (n := 1000) (ds := [.r [], .r [], .b true, .r [(2, ⟨(.c false [] ⟨[], [], [], 0, (.im (.ifc 40 (eI .i64 v2))), [], 0, [], 1⟩), [], []⟩)], .k ⟨[], [], [], [], [], 0, [], []⟩])
        (r := (.fin (.tup [(.im (eI .i64 0)), (.im (eI .i64 0)), (.im (.ifc 40 (eI .i64 v2)))]) [] 0)) (obs := [(decide (p1 ≥ p2)) = true, Ct.Ok PX 61 ⟨[(.im (eI .i64 p1)), (.im (.ifc 40 (eI .i64 6)))], [], 0, (.im (.ifc 40 (eI .i64 v2))), [], 0⟩])
        (by kernel_rfl) ⟨(dt h1), (by have q := (f61_ok k p1 (Er.code 6) v1 h2); rw [h3] at q; exact q), trivial⟩ (fun fn hfn => ⟨rfl, rfl, rfl⟩)
    · rw [h3] at h; dsimp only [Er.on] at h
      replace h := Option.some.inj h; subst h
      exact Ct.ofWalk hT hm F108 (by kernel_rfl) (n := 1000) (ds := [.r [], .r [], .b true, .r [(2, ⟨(.c false [] ⟨[], [], [], 0, (.im (.ifc 77 (.pim 2 (.st [(1, (eI .i64 v2)), (1, (.ifc 40 (eI .i64 v3)))])))), [], 0, [], 1⟩), [], []⟩)], .k ⟨[], [], [], [], [], 0, [], []⟩])
        (r := (.fin (.tup [(.im (eI .i64 0)), (.im (eI .i64 0)), (.im (.ifc 77 (.pim 2 (.st [(1, (eI .i64 v2)), (1, (.ifc 40 (eI .i64 v3)))]))))]) [] 0)) (obs := [(decide (p1 ≥ p2)) = true, Ct.Ok PX 61 ⟨[(.im (eI .i64 p1)), (.im (.ifc 40 (eI .i64 6)))], [], 0, (.im (.ifc 77 (.pim 2 (.st [(1, (eI .i64 v2)), (1, (.ifc 40 (eI .i64 v3)))])))), [], 0⟩])
        (by kernel_rfl) ⟨(dt h1), (by have q := (f61_ok k p1 (Er.code 6) v1 h2); rw [h3] at q; exact q), trivial⟩ (fun fn hfn => ⟨rfl, rfl, rfl⟩)
  · rw [if_neg h1] at h
    obtain ⟨v1, h2, h⟩ := bnd h
    by_cases h3 : (IntKind.wrap .i64 v1) = 128
    · rw [if_pos h3] at h
      obtain ⟨v2, h4, h⟩ := bnd h
      rcases h5 : v2 with _ | v3 | ⟨v3, v4⟩
      · rw [h5] at h; dsimp only [Er.on] at h
        replace h := Option.some.inj h; subst h
        exact Ct.ofWalk hT hm F108 (by kernel_rfl) (n := 1000) (ds := [.r [], .r [], .b false, .r [(3, ⟨(.h (.iv (eI .u8 v1))), [], []⟩)], .r [(3, ⟨(.h .gf), [], []⟩), (4, ⟨(.h .gf), [], []⟩), (5, ⟨(.h (.gt .no)), [], []⟩)], .bc true, .r [(2, ⟨(.c false [] ⟨[], [], [], 0, (.im (.v .nilIface)), [], 0, [], 1⟩), [], []⟩)], .k ⟨[], [], [], [], [], 0, [], []⟩])
          (r := (.fin (.tup [(.im (eI .i64 0)), (.im (eI .i64 0)), (.im (.v .nilIface))]) [] 0)) (obs := [(decide (p1 ≥ p2)) = false, 0 ≤ p1, (p0.b.map (eI .u8))[(p1).toNat]? = some (eI .u8 v1), ((IntKind.wrap .i64 v1) == 128) = !false, ((IntKind.wrap .i64 v1) == 128) = !false, ((IntKind.wrap .i64 v1) == 128) = true, Ct.Ok PX 61 ⟨[(.im (eI .i64 p1)), (.im (.ifc 40 (eI .i64 7)))], [], 0, (.im (.v .nilIface)), [], 0⟩])
          (by kernel_rfl) ⟨(df h1), (rd_nn h2), (rd_map (eI .u8) h2), (bt h3), (bt h3), (bt h3), (by have q := (f61_ok k p1 (Er.code 7) v2 h4); rw [h5] at q; exact q), trivial⟩ (fun fn hfn => ⟨rfl, rfl, rfl⟩)
      · rw [h5] at h; dsimp only [Er.on] at h
        replace h := Option.some.inj h; subst h
        exact Ct.ofWalk hT hm F108 (by kernel_rfl) (n := 1000) (ds := [.r [], .r [], .b false, .r [(3, ⟨(.h (.iv (eI .u8 v1))), [], []⟩)], .r [(3, ⟨(.h .gf), [], []⟩), (4, ⟨(.h .gf), [], []⟩), (5, ⟨(.h (.gt .no)), [], []⟩)], .bc true, .r [(2, ⟨(.c false [] ⟨[], [], [], 0, (.im (.ifc 40 (eI .i64 v3))), [], 0, [], 1⟩), [], []⟩)], .k ⟨[], [], [], [], [], 0, [], []⟩])
          (r := (.fin (.tup [(.im (eI .i64 0)), (.im (eI .i64 0)), (.im (.ifc 40 (eI .i64 v3)))]) [] 0)) (obs := [(decide (p1 ≥ p2)) = false, 0 ≤ p1, (p0.b.map (eI .u8))[(p1).toNat]? = some (eI .u8 v1), ((IntKind.wrap .i64 v1) == 128) = !false, ((IntKind.wrap .i64 v1) == 128) = !false, ((IntKind.wrap .i64 v1) == 128) = true, Ct.Ok PX 61 ⟨[(.im (eI .i64 p1)), (.im (.ifc 40 (eI .i64 7)))], [], 0, (.im (.ifc 40 (eI .i64 v3))), [], 0⟩])
          (by kernel_rfl) ⟨(df h1), (rd_nn h2), (rd_map (eI .u8) h2), (bt h3), (bt h3), (bt h3), (by have q := (f61_ok k p1 (Er.code 7) v2 h4); rw [h5] at q; exact q), trivial⟩ (fun fn hfn => ⟨rfl, rfl, rfl⟩)
      · rw [h5] at h; dsimp only [Er.on] at h
        replace h := Option.some.inj h; subst h
        exact Ct.ofWalk hT hm F108 (by kernel_rfl) (n := 1000) (ds := [.r [], .r [], .b false, .r [(3, ⟨(.h (.iv (eI .u8 v1))), [], []⟩)], .r [(3, ⟨(.h .gf), [], []⟩), (4, ⟨(.h .gf), [], []⟩), (5, ⟨(.h (.gt .no)), [], []⟩)], .bc true, .r [(2, ⟨(.c false [] ⟨[], [], [], 0, (.im (.ifc 77 (.pim 2 (.st [(1, (eI .i64 v3)), (1, (.ifc 40 (eI .i64 v4)))])))), [], 0, [], 1⟩), [], []⟩)], .k ⟨[], [], [], [], [], 0, [], []⟩])
          (r := (.fin (.tup [(.im (eI .i64 0)), (.im (eI .i64 0)), (.im (.ifc 77 (.pim 2 (.st [(1, (eI .i64 v3)), (1, (.ifc 40 (eI .i64 v4)))]))))]) [] 0)) (obs := [(decide (p1 ≥ p2)) = false, 0 ≤ p1, (p0.b.map (eI .u8))[(p1).toNat]? = some (eI .u8 v1), ((IntKind.wrap .i64 v1) == 128) = !false, ((IntKind.wrap .i64 v1) == 128) = !false, ((IntKind.wrap .i64 v1) == 128) = true, Ct.Ok PX 61 ⟨[(.im (eI .i64 p1)), (.im (.ifc 40 (eI .i64 7)))], [], 0, (.im (.ifc 77 (.pim 2 (.st [(1, (eI .i64 v3)), (1, (.ifc 40 (eI .i64 v4)))])))), [], 0⟩])
          (by kernel_rfl) ⟨(df h1), (rd_nn h2), (rd_map (eI .u8) h2), (bt h3), (bt h3), (bt h3), (by have q := (f61_ok k p1 (Er.code 7) v2 h4); rw [h5] at q; exact q), trivial⟩ (fun fn hfn => ⟨rfl, rfl, rfl⟩)
    · rw [if_neg h3] at h
      by_cases h4 : (IntKind.wrap .i64 v1) > 131
      · rw [if_pos h4] at h
        obtain ⟨v2, h5, h⟩ := bnd h
        rcases h6 : v2 with _ | v3 | ⟨v3, v4⟩
        · rw [h6] at h; dsimp only [Er.on] at h
          replace h := Option.some.inj h; subst h
          exact Ct.ofWalk hT hm F108 (by kernel_rfl) (n := 1000) (ds := [.r [], .r [], .b false, .r [(3, ⟨(.h (.iv (eI .u8 v1))), [], []⟩)], .r [(3, ⟨(.h (.gt .no)), [], []⟩), (4, ⟨(.h (.gt .no)), [], []⟩), (5, ⟨(.h .gf), [], []⟩)], .b true, .r [(2, ⟨(.c false [] ⟨[], [], [], 0, (.im (.v .nilIface)), [], 0, [], 1⟩), [], []⟩)], .k ⟨[], [], [], [], [], 0, [], []⟩])
            (r := (.fin (.tup [(.im (eI .i64 0)), (.im (eI .i64 0)), (.im (.v .nilIface))]) [] 0)) (obs := [(decide (p1 ≥ p2)) = false, 0 ≤ p1, (p0.b.map (eI .u8))[(p1).toNat]? = some (eI .u8 v1), ((IntKind.wrap .i64 v1) == 128) = false, ((IntKind.wrap .i64 v1) == 128) = false, ((IntKind.wrap .i64 v1) == 128) = false, (decide ((IntKind.wrap .i64 v1) > 131)) = true, Ct.Ok PX 61 ⟨[(.im (eI .i64 p1)), (.im (.ifc 40 (eI .i64 7)))], [], 0, (.im (.v .nilIface)), [], 0⟩])
            (by kernel_rfl) ⟨(df h1), (rd_nn h2), (rd_map (eI .u8) h2), (bf h3), (bf h3), (bf h3), (dt h4), (by have q := (f61_ok k p1 (Er.code 7) v2 h5); rw [h6] at q; exact q), trivial⟩ (fun fn hfn => ⟨rfl, rfl, rfl⟩)
        · rw [h6] at h; dsimp only [Er.on] at h
          replace h := Option.some.inj h; subst h
          exact Ct.ofWalk hT hm F108 (by kernel_rfl) (n := 1000) (ds := [.r [], .r [], .b false, .r [(3, ⟨(.h (.iv (eI .u8 v1))), [], []⟩)], .r [(3, ⟨(.h (.gt .no)), [], []⟩), (4, ⟨(.h (.gt .no)), [], []⟩), (5, ⟨(.h .gf), [], []⟩)], .b true, .r [(2, ⟨(.c false [] ⟨[], [], [], 0, (.im (.ifc 40 (eI .i64 v3))), [], 0, [], 1⟩), [], []⟩)], .k ⟨[], [], [], [], [], 0, [], []⟩])
            (r := (.fin (.tup [(.im (eI .i64 0)), (.im (eI .i64 0)), (.im (.ifc 40 (eI .i64 v3)))]) [] 0)) (obs := [(decide (p1 ≥ p2)) = false, 0 ≤ p1, (p0.b.map (eI .u8))[(p1).toNat]? = some (eI .u8 v1), ((IntKind.wrap .i64 v1) == 128) = false, ((IntKind.wrap .i64 v1) == 128) = false, ((IntKind.wrap .i64 v1) == 128) = false, (decide ((IntKind.wrap .i64 v1) > 131)) = true, Ct.Ok PX 61 ⟨[(.im (eI .i64 p1)), (.im (.ifc 40 (eI .i64 7)))], [], 0, (.im (.ifc 40 (eI .i64 v3))), [], 0⟩])
            (by kernel_rfl) ⟨(df h1), (rd_nn h2), (rd_map (eI .u8) h2), (bf h3), (bf h3), (bf h3), (dt h4), (by have q := (f61_ok k p1 (Er.code 7) v2 h5); rw [h6] at q; exact q), trivial⟩ (fun fn hfn => ⟨rfl, rfl, rfl⟩)
        · rw [h6] at h; dsimp only [Er.on] at h
          replace h := Option.some.inj h; subst h
          exact Ct.ofWalk hT hm F108 (by kernel_rfl) (n := 1000) (ds := [.r [], .r [], .b false, .r [(3, ⟨(.h (.iv (eI .u8 v1))), [], []⟩)], .r [(3, ⟨(.h (.gt .no)), [], []⟩), (4, ⟨(.h (.gt .no)), [], []⟩), (5, ⟨(.h .gf), [], []⟩)], .b true, .r [(2, ⟨(.c false [] ⟨[], [], [], 0, (.im (.ifc 77 (.pim 2 (.st [(1, (eI .i64 v3)), (1, (.ifc 40 (eI .i64 v4)))])))), [], 0, [], 1⟩), [], []⟩)], .k ⟨[], [], [], [], [], 0, [], []⟩])
            (r := (.fin (.tup [(.im (eI .i64 0)), (.im (eI .i64 0)), (.im (.ifc 77 (.pim 2 (.st [(1, (eI .i64 v3)), (1, (.ifc 40 (eI .i64 v4)))]))))]) [] 0)) (obs := [(decide (p1 ≥ p2)) = false, 0 ≤ p1, (p0.b.map (eI .u8))[(p1).toNat]? = some (eI .u8 v1), ((IntKind.wrap .i64 v1) == 128) = false, ((IntKind.wrap .i64 v1) == 128) = false, ((IntKind.wrap .i64 v1) == 128) = false, (decide ((IntKind.wrap .i64 v1) > 131)) = true, Ct.Ok PX 61 ⟨[(.im (eI .i64 p1)), (.im (.ifc 40 (eI .i64 7)))], [], 0, (.im (.ifc 77 (.pim 2 (.st [(1, (eI .i64 v3)), (1, (.ifc 40 (eI .i64 v4)))])))), [], 0⟩])
            (by kernel_rfl) ⟨(df h1), (rd_nn h2), (rd_map (eI .u8) h2), (bf h3), (bf h3), (bf h3), (dt h4), (by have q := (f61_ok k p1 (Er.code 7) v2 h5); rw [h6] at q; exact q), trivial⟩ (fun fn hfn => ⟨rfl, rfl, rfl⟩)
      · rw [if_neg h4] at h
        by_cases h5 : (IntKind.wrap .i64 v1) > 128
        · rw [if_pos h5] at h
          by_cases h6 : (IntKind.wrap .i64 ((IntKind.wrap .i64 v1) - 128)) > (IntKind.wrap .i64 (p2 - (IntKind.wrap .i64 (p1 + 1))))
          · rw [if_pos h6] at h
            obtain ⟨v2, h7, h⟩ := bnd h
            rcases h8 : v2 with _ | v3 | ⟨v3, v4⟩
            · rw [h8] at h; dsimp only [Er.on] at h
              replace h := Option.some.inj h; subst h
              exact Ct.ofWalk hT hm F108 (by kernel_rfl) (n := 1000) (ds := [.r [], .r [], .b false, .r [(3, ⟨(.h (.iv (eI .u8 v1))), [], []⟩)], .r [(3, ⟨(.h (.gt .no)), [], []⟩), (4, ⟨(.h (.gt .no)), [], []⟩), (5, ⟨(.h .gf), [], []⟩)], .b false, .r [], .b true, .r [], .r [], .b true, .r [(2, ⟨(.c false [] ⟨[], [], [], 0, (.im (.v .nilIface)), [], 0, [], 1⟩), [], []⟩)], .k ⟨[], [], [], [], [], 0, [], []⟩])
                (r := (.fin (.tup [(.im (eI .i64 0)), (.im (eI .i64 0)), (.im (.v .nilIface))]) [] 0)) (obs := [(decide (p1 ≥ p2)) = false, 0 ≤ p1, (p0.b.map (eI .u8))[(p1).toNat]? = some (eI .u8 v1), ((IntKind.wrap .i64 v1) == 128) = false, ((IntKind.wrap .i64 v1) == 128) = false, ((IntKind.wrap .i64 v1) == 128) = false, (decide ((IntKind.wrap .i64 v1) > 131)) = false, (decide ((IntKind.wrap .i64 v1) > 128)) = true, (decide ((IntKind.wrap .i64 ((IntKind.wrap .i64 v1) - 128)) > (IntKind.wrap .i64 (p2 - (IntKind.wrap .i64 (p1 + 1)))))) = true, Ct.Ok PX 61 ⟨[(.im (eI .i64 p1)), (.im (.ifc 40 (eI .i64 6)))], [], 0, (.im (.v .nilIface)), [], 0⟩])
                (by kernel_rfl) ⟨(df h1), (rd_nn h2), (rd_map (eI .u8) h2), (bf h3), (bf h3), (bf h3), (df h4), (dt h5), (dt h6), (by have q := (f61_ok k p1 (Er.code 6) v2 h7); rw [h8] at q; exact q), trivial⟩ (fun fn hfn => ⟨rfl, rfl, rfl⟩)
            · rw [h8] at h; dsimp only [Er.on] at h
              replace h := Option.some.inj h; subst h
              exact Ct.ofWalk hT hm F108 (by kernel_rfl) (n := 1000) (ds := [.r [], .r [], .b false, .r [(3, ⟨(.h (.iv (eI .u8 v1))), [], []⟩)], .r [(3, ⟨(.h (.gt .no)), [], []⟩), (4, ⟨(.h (.gt .no)), [], []⟩), (5, ⟨(.h .gf), [], []⟩)], .b false, .r [], .b true, .r [], .r [], .b true, .r [(2, ⟨(.c false [] ⟨[], [], [], 0, (.im (.ifc 40 (eI .i64 v3))), [], 0, [], 1⟩), [], []⟩)], .k ⟨[], [], [], [], [], 0, [], []⟩])
                (r := (.fin (.tup [(.im (eI .i64 0)), (.im (eI .i64 0)), (.im (.ifc 40 (eI .i64 v3)))]) [] 0)) (obs := [(decide (p1 ≥ p2)) = false, 0 ≤ p1, (p0.b.map (eI .u8))[(p1).toNat]? = some (eI .u8 v1), ((IntKind.wrap .i64 v1) == 128) = false, ((IntKind.wrap .i64 v1) == 128) = false, ((IntKind.wrap .i64 v1) == 128) = false, (decide ((IntKind.wrap .i64 v1) > 131)) = false, (decide ((IntKind.wrap .i64 v1) > 128)) = true, (decide ((IntKind.wrap .i64 ((IntKind.wrap .i64 v1) - 128)) > (IntKind.wrap .i64 (p2 - (IntKind.wrap .i64 (p1 + 1)))))) = true, Ct.Ok PX 61 ⟨[(.im (eI .i64 p1)), (.im (.ifc 40 (eI .i64 6)))], [], 0, (.im (.ifc 40 (eI .i64 v3))), [], 0⟩])
                (by kernel_rfl) ⟨(df h1), (rd_nn h2), (rd_map (eI .u8) h2), (bf h3), (bf h3), (bf h3), (df h4), (dt h5), (dt h6), (by have q := (f61_ok k p1 (Er.code 6) v2 h7); rw [h8] at q; exact q), trivial⟩ (fun fn hfn => ⟨rfl, rfl, rfl⟩)
            · rw [h8] at h; dsimp only [Er.on] at h
              replace h := Option.some.inj h; subst h
              exact Ct.ofWalk hT hm F108 (by kernel_rfl) (n := 1000) (ds := [.r [], .r [], .b false, .r [(3, ⟨(.h (.iv (eI .u8 v1))), [], []⟩)], .r [(3, ⟨(.h (.gt .no)), [], []⟩), (4, ⟨(.h (.gt .no)), [], []⟩), (5, ⟨(.h .gf), [], []⟩)], .b false, .r [], .b true, .r [], .r [], .b true, .r [(2, ⟨(.c false [] ⟨[], [], [], 0, (.im (.ifc 77 (.pim 2 (.st [(1, (eI .i64 v3)), (1, (.ifc 40 (eI .i64 v4)))])))), [], 0, [], 1⟩), [], []⟩)], .k ⟨[], [], [], [], [], 0, [], []⟩])
                (r := (.fin (.tup [(.im (eI .i64 0)), (.im (eI .i64 0)), (.im (.ifc 77 (.pim 2 (.st [(1, (eI .i64 v3)), (1, (.ifc 40 (eI .i64 v4)))]))))]) [] 0)) (obs := [(decide (p1 ≥ p2)) = false, 0 ≤ p1, (p0.b.map (eI .u8))[(p1).toNat]? = some (eI .u8 v1), ((IntKind.wrap .i64 v1) == 128) = false, ((IntKind.wrap .i64 v1) == 128) = false, ((IntKind.wrap .i64 v1) == 128) = false, (decide ((IntKind.wrap .i64 v1) > 131)) = false, (decide ((IntKind.wrap .i64 v1) > 128)) = true, (decide ((IntKind.wrap .i64 ((IntKind.wrap .i64 v1) - 128)) > (IntKind.wrap .i64 (p2 - (IntKind.wrap .i64 (p1 + 1)))))) = true, Ct.Ok PX 61 ⟨[(.im (eI .i64 p1)), (.im (.ifc 40 (eI .i64 6)))], [], 0, (.im (.ifc 77 (.pim 2 (.st [(1, (eI .i64 v3)), (1, (.ifc 40 (eI .i64 v4)))])))), [], 0⟩])
                (by kernel_rfl) ⟨(df h1), (rd_nn h2), (rd_map (eI .u8) h2), (bf h3), (bf h3), (bf h3), (df h4), (dt h5), (dt h6), (by have q := (f61_ok k p1 (Er.code 6) v2 h7); rw [h8] at q; exact q), trivial⟩ (fun fn hfn => ⟨rfl, rfl, rfl⟩)
          · rw [if_neg h6] at h
            obtain ⟨v2, h7, h⟩ := bnd h
            exact Ct.ofWalk hT hm F108 (by kernel_rfl) (n := 1000) (ds := [.r [], .r [], .b false, .r [(3, ⟨(.h (.iv (eI .u8 v1))), [], []⟩)], .r [(3, ⟨(.h (.gt .no)), [], []⟩), (4, ⟨(.h (.gt .no)), [], []⟩), (5, ⟨(.h .gf), [], []⟩)], .b false, .r [], .b true, .r [], .r [], .b false, .r [], .r [(6, ⟨(.h (.ivs (v2.map (eI .u8)))), [], []⟩), (7, ⟨(.h (.int (v2.length : Int))), [], []⟩)], .k ⟨[], [], [], [1, 2, 3, 9, 10, 11, 57, 58, 59], [(0, 0)], 1, [], []⟩])
              (r := (.head cc108_0 [.blk 1, .seq cc108_1, .blk 0, .seq cc108_2] (f108L0_S p0 p1 p2 0 (IntKind.wrap .i64 ((IntKind.wrap .i64 v1) - 128)) v2 (v2.length : Int) 0))) (obs := [(decide (p1 ≥ p2)) = false, 0 ≤ p1, (p0.b.map (eI .u8))[(p1).toNat]? = some (eI .u8 v1), ((IntKind.wrap .i64 v1) == 128) = false, ((IntKind.wrap .i64 v1) == 128) = false, ((IntKind.wrap .i64 v1) == 128) = false, (decide ((IntKind.wrap .i64 v1) > 131)) = false, (decide ((IntKind.wrap .i64 v1) > 128)) = true, (decide ((IntKind.wrap .i64 ((IntKind.wrap .i64 v1) - 128)) > (IntKind.wrap .i64 (p2 - (IntKind.wrap .i64 (p1 + 1)))))) = false, (0 : Int) ≤ (IntKind.wrap .i64 (p1 + 1)), ((IntKind.wrap .i64 (p1 + 1)) : Int) ≤ (IntKind.wrap .i64 ((IntKind.wrap .i64 (p1 + 1)) + (IntKind.wrap .i64 ((IntKind.wrap .i64 v1) - 128)))), (IntKind.wrap .i64 ((IntKind.wrap .i64 (p1 + 1)) + (IntKind.wrap .i64 ((IntKind.wrap .i64 v1) - 128)))) ≤ ((p0.b.map (eI .u8)).length : Int), ((p0.b.map (eI .u8)).drop ((IntKind.wrap .i64 (p1 + 1)) : Int).toNat).take (((IntKind.wrap .i64 ((IntKind.wrap .i64 (p1 + 1)) + (IntKind.wrap .i64 ((IntKind.wrap .i64 v1) - 128)))) : Int).toNat - ((IntKind.wrap .i64 (p1 + 1)) : Int).toNat) = (v2.map (eI .u8)), ((v2.map (eI .u8)).length : Int) = (v2.length : Int)])
              (by kernel_rfl) ⟨(df h1), (rd_nn h2), (rd_map (eI .u8) h2), (bf h3), (bf h3), (bf h3), (df h4), (dt h5), (df h6), (sl_ok h7).1, (sl_ok h7).2.1, (sl_len (eI .u8) h7), (sl_map (eI .u8) h7), (len_m (eI .u8) _), trivial⟩ (fun fn hfn => f108L0_ok fn hfn k p0 p1 p2 0 (IntKind.wrap .i64 ((IntKind.wrap .i64 v1) - 128)) v2 (v2.length : Int) 0 _ h)
        · rw [if_neg h5] at h
          by_cases h6 : (IntKind.wrap .i64 v1) > (IntKind.wrap .i64 (p2 - (IntKind.wrap .i64 (p1 + 1))))
          · rw [if_pos h6] at h
            obtain ⟨v2, h7, h⟩ := bnd h
            rcases h8 : v2 with _ | v3 | ⟨v3, v4⟩
            · rw [h8] at h; dsimp only [Er.on] at h
              replace h := Option.some.inj h; subst h
              exact Ct.ofWalk hT hm F108 (by kernel_rfl) (n := 1000) (ds := [.r [], .r [], .b false, .r [(3, ⟨(.h (.iv (eI .u8 v1))), [], []⟩)], .r [(3, ⟨(.h (.gt .no)), [], []⟩), (4, ⟨(.h (.gt .no)), [], []⟩), (5, ⟨(.h .gf), [], []⟩)], .b false, .r [], .b false, .r [], .b true, .r [(2, ⟨(.c false [] ⟨[], [], [], 0, (.im (.v .nilIface)), [], 0, [], 1⟩), [], []⟩)], .k ⟨[], [], [], [], [], 0, [], []⟩])
                (r := (.fin (.tup [(.im (eI .i64 0)), (.im (eI .i64 0)), (.im (.v .nilIface))]) [] 0)) (obs := [(decide (p1 ≥ p2)) = false, 0 ≤ p1, (p0.b.map (eI .u8))[(p1).toNat]? = some (eI .u8 v1), ((IntKind.wrap .i64 v1) == 128) = false, ((IntKind.wrap .i64 v1) == 128) = false, ((IntKind.wrap .i64 v1) == 128) = false, (decide ((IntKind.wrap .i64 v1) > 131)) = false, (decide ((IntKind.wrap .i64 v1) > 128)) = false, (decide ((IntKind.wrap .i64 v1) > (IntKind.wrap .i64 (p2 - (IntKind.wrap .i64 (p1 + 1)))))) = true, Ct.Ok PX 61 ⟨[(.im (eI .i64 p1)), (.im (.ifc 40 (eI .i64 6)))], [], 0, (.im (.v .nilIface)), [], 0⟩])
                (by kernel_rfl) ⟨(df h1), (rd_nn h2), (rd_map (eI .u8) h2), (bf h3), (bf h3), (bf h3), (df h4), (df h5), (dt h6), (by have q := (f61_ok k p1 (Er.code 6) v2 h7); rw [h8] at q; exact q), trivial⟩ (fun fn hfn => ⟨rfl, rfl, rfl⟩)
            · rw [h8] at h; dsimp only [Er.on] at h
              replace h := Option.some.inj h; subst h
              exact Ct.ofWalk hT hm F108 (by kernel_rfl) (n := 1000) (ds := [.r [], .r [], .b false, .r [(3, ⟨(.h (.iv (eI .u8 v1))), [], []⟩)], .r [(3, ⟨(.h (.gt .no)), [], []⟩), (4, ⟨(.h (.gt .no)), [], []⟩), (5, ⟨(.h .gf), [], []⟩)], .b false, .r [], .b false, .r [], .b true, .r [(2, ⟨(.c false [] ⟨[], [], [], 0, (.im (.ifc 40 (eI .i64 v3))), [], 0, [], 1⟩), [], []⟩)], .k ⟨[], [], [], [], [], 0, [], []⟩])
                (r := (.fin (.tup [(.im (eI .i64 0)), (.im (eI .i64 0)), (.im (.ifc 40 (eI .i64 v3)))]) [] 0)) (obs := [(decide (p1 ≥ p2)) = false, 0 ≤ p1, (p0.b.map (eI .u8))[(p1).toNat]? = some (eI .u8 v1), ((IntKind.wrap .i64 v1) == 128) = false, ((IntKind.wrap .i64 v1) == 128) = false, ((IntKind.wrap .i64 v1) == 128) = false, (decide ((IntKind.wrap .i64 v1) > 131)) = false, (decide ((IntKind.wrap .i64 v1) > 128)) = false, (decide ((IntKind.wrap .i64 v1) > (IntKind.wrap .i64 (p2 - (IntKind.wrap .i64 (p1 + 1)))))) = true, Ct.Ok PX 61 ⟨[(.im (eI .i64 p1)), (.im (.ifc 40 (eI .i64 6)))], [], 0, (.im (.ifc 40 (eI .i64 v3))), [], 0⟩])
                (by kernel_rfl) ⟨(df h1), (rd_nn h2), (rd_map (eI .u8) h2), (bf h3), (bf h3), (bf h3), (df h4), (df h5), (dt h6), (by have q := (f61_ok k p1 (Er.code 6) v2 h7); rw [h8] at q; exact q), trivial⟩ (fun fn hfn => ⟨rfl, rfl, rfl⟩)
            · rw [h8] at h; dsimp only [Er.on] at h
              replace h := Option.some.inj h; subst h
              exact Ct.ofWalk hT hm F108 (by kernel_rfl) (n := 1000) (ds := [.r [], .r [], .b false, .r [(3, ⟨(.h (.iv (eI .u8 v1))), [], []⟩)], .r [(3, ⟨(.h (.gt .no)), [], []⟩), (4, ⟨(.h (.gt .no)), [], []⟩), (5, ⟨(.h .gf), [], []⟩)], .b false, .r [], .b false, .r [], .b true, .r [(2, ⟨(.c false [] ⟨[], [], [], 0, (.im (.ifc 77 (.pim 2 (.st [(1, (eI .i64 v3)), (1, (.ifc 40 (eI .i64 v4)))])))), [], 0, [], 1⟩), [], []⟩)], .k ⟨[], [], [], [], [], 0, [], []⟩])
                (r := (.fin (.tup [(.im (eI .i64 0)), (.im (eI .i64 0)), (.im (.ifc 77 (.pim 2 (.st [(1, (eI .i64 v3)), (1, (.ifc 40 (eI .i64 v4)))]))))]) [] 0)) (obs := [(decide (p1 ≥ p2)) = false, 0 ≤ p1, (p0.b.map (eI .u8))[(p1).toNat]? = some (eI .u8 v1), ((IntKind.wrap .i64 v1) == 128) = false, ((IntKind.wrap .i64 v1) == 128) = false, ((IntKind.wrap .i64 v1) == 128) = false, (decide ((IntKind.wrap .i64 v1) > 131)) = false, (decide ((IntKind.wrap .i64 v1) > 128)) = false, (decide ((IntKind.wrap .i64 v1) > (IntKind.wrap .i64 (p2 - (IntKind.wrap .i64 (p1 + 1)))))) = true, Ct.Ok PX 61 ⟨[(.im (eI .i64 p1)), (.im (.ifc 40 (eI .i64 6)))], [], 0, (.im (.ifc 77 (.pim 2 (.st [(1, (eI .i64 v3)), (1, (.ifc 40 (eI .i64 v4)))])))), [], 0⟩])
                (by kernel_rfl) ⟨(df h1), (rd_nn h2), (rd_map (eI .u8) h2), (bf h3), (bf h3), (bf h3), (df h4), (df h5), (dt h6), (by have q := (f61_ok k p1 (Er.code 6) v2 h7); rw [h8] at q; exact q), trivial⟩ (fun fn hfn => ⟨rfl, rfl, rfl⟩)
          · rw [if_neg h6] at h
            replace h := Option.some.inj h; subst h
            exact Ct.ofWalk hT hm F108 (by kernel_rfl) (n := 1000) (ds := [.r [], .r [], .b false, .r [(3, ⟨(.h (.iv (eI .u8 v1))), [], []⟩)], .r [(3, ⟨(.h (.gt .no)), [], []⟩), (4, ⟨(.h (.gt .no)), [], []⟩), (5, ⟨(.h .gf), [], []⟩)], .b false, .r [], .b false, .r [], .b false, .r [], .k ⟨[], [], [], [], [], 0, [], []⟩])
              (r := (.fin (.tup [(.im (eI .i64 (IntKind.wrap .i64 (p1 + 1)))), (.im (eI .i64 (IntKind.wrap .i64 ((IntKind.wrap .i64 (p1 + 1)) + (IntKind.wrap .i64 v1))))), (.im (.v .nilIface))]) [] 0)) (obs := [(decide (p1 ≥ p2)) = false, 0 ≤ p1, (p0.b.map (eI .u8))[(p1).toNat]? = some (eI .u8 v1), ((IntKind.wrap .i64 v1) == 128) = false, ((IntKind.wrap .i64 v1) == 128) = false, ((IntKind.wrap .i64 v1) == 128) = false, (decide ((IntKind.wrap .i64 v1) > 131)) = false, (decide ((IntKind.wrap .i64 v1) > 128)) = false, (decide ((IntKind.wrap .i64 v1) > (IntKind.wrap .i64 (p2 - (IntKind.wrap .i64 (p1 + 1)))))) = false])
              (by kernel_rfl) ⟨(df h1), (rd_nn h2), (rd_map (eI .u8) h2), (bf h3), (bf h3), (bf h3), (df h4), (df h5), (df h6), trivial⟩ (fun fn hfn => ⟨rfl, rfl, rfl⟩)
end Go.Proofs.Tryd.E
end

section
namespace Go.Proofs.Tryd.E
open Go Go.Eng
set_option maxRecDepth 100000
set_option linter.unusedVariables false
def f60L0_S (p0 : SReader) (p1 : Int) (p2 : Int) (p3 : Int) (x1 : Int) (x2 : Int) (x9 : Int) (x10 : Int) (x11 : Bool) (x13 : (List STlv)) : S := ⟨[(3, (.im (eI .i64 p3))), (4, (.ref 0 [])), (8, (.ref 1 [])), (11, (.ref 2 [])), (12, (.im (eI .i64 x1))), (13, (.im (eI .i64 x2)))], [(0, (.box false 1 (.im (.st [(1, (.sl 1 (p0.b.map (eI .u8))))])))), (1, (.box false 5 (.im (.st [(1, (eI .i64 0)), (1, (eI .i64 0)), (1, (eB false)), (1, (.v (.slice none 0 0))), (1, (.v (.slice none 0 0)))])))), (2, (.box false 5 (.st [(1, (.im (eI .i64 x9))), (1, (.im (eI .i64 x10))), (1, (.im (eB x11))), (1, (.im (.v (.slice none 0 0)))), (1, (.ownF 5 3))]))), (3, (.row 35 5 (x13.map eSTlv) 0))], 4⟩

mutual
def f60 : Nat → SReader → Int → Int → Int → Option (STlv × Int × Er)
  | 0, _, _, _, _ => none
  | k + 1, p0, p1, p2, p3 =>
    if p3 ≥ 16 then (
     (f61 k p1 (Er.code 9)).bind fun v1 =>
     Er.on v1 (
      some ((STlv.mk 0 0 false [] []), 0, Er.nil))
      (fun v2 =>
      some ((STlv.mk 0 0 false [] []), 0, (Er.code v2)))
      (fun v2 v3 =>
      some ((STlv.mk 0 0 false [] []), 0, (Er.spot v2 v3))))
    else (
     if p1 ≥ p2 then (
      (f61 k p1 (Er.code 6)).bind fun v1 =>
      Er.on v1 (
       some ((STlv.mk 0 0 false [] []), 0, Er.nil))
       (fun v2 =>
       some ((STlv.mk 0 0 false [] []), 0, (Er.code v2)))
       (fun v2 v3 =>
       some ((STlv.mk 0 0 false [] []), 0, (Er.spot v2 v3))))
     else (
      (rd p0.b p1).bind fun v1 =>
      if (bitI .and .u8 v1 31) = 31 then (
       (f61 k p1 (Er.code 7)).bind fun v2 =>
       Er.on v2 (
        some ((STlv.mk 0 0 false [] []), 0, Er.nil))
        (fun v3 =>
        some ((STlv.mk 0 0 false [] []), 0, (Er.code v3)))
        (fun v3 v4 =>
        some ((STlv.mk 0 0 false [] []), 0, (Er.spot v3 v4))))
      else (
       (f108 k p0 (IntKind.wrap .i64 (p1 + 1)) p2).bind fun v2 =>
       Er.on v2.2.2 (
        if (bitI .and .u8 v1 32) = 0 then (
         (sl p0.b v2.1 v2.2.1).bind fun v3 =>
         (f109c k v3).bind fun v4 =>
         some ((STlv.mk (IntKind.wrap .i64 (shrI .u8 v1 6)) (IntKind.wrap .i64 (bitI .and .u8 v1 31)) ((bitI .and .u8 v1 32) != 0) v4 []), v2.2.1, Er.nil))
        else (
         f60L0 k p0 p1 p2 p3 v2.1 v2.2.1 (IntKind.wrap .i64 (shrI .u8 v1 6)) (IntKind.wrap .i64 (bitI .and .u8 v1 31)) ((bitI .and .u8 v1 32) != 0) []))
        (fun v3 =>
        some ((STlv.mk 0 0 false [] []), 0, (Er.code v3)))
        (fun v3 v4 =>
        some ((STlv.mk 0 0 false [] []), 0, (Er.spot v3 v4))))))
def f60L0 : Nat → SReader → Int → Int → Int → Int → Int → Int → Int → Bool → (List STlv) → Option (STlv × Int × Er)
  | 0, _, _, _, _, _, _, _, _, _, _ => none
  | k + 1, p0, p1, p2, p3, x1, x2, x9, x10, x11, x13 =>
    if x1 < x2 then (
     (f60 k p0 x1 x2 (IntKind.wrap .i64 (p3 + 1))).bind fun v1 =>
     Er.on v1.2.2 (
      (ap 72 x13 [v1.1]).bind fun v2 =>
      f60L0 k p0 p1 p2 p3 v1.2.1 x2 x9 x10 x11 v2)
      (fun v2 =>
      some ((STlv.mk 0 0 false [] []), 0, (Er.code v2)))
      (fun v2 v3 =>
      some ((STlv.mk 0 0 false [] []), 0, (Er.spot v2 v3))))
    else (
     some ((STlv.mk x9 x10 x11 [] x13), x2, Er.nil))
end

def f60_P (k : Nat) : Prop := ∀ (p0 : SReader) (p1 : Int) (p2 : Int) (p3 : Int) (r : STlv × Int × Er), f60 k p0 p1 p2 p3 = some r → Ct.Ok PX 60 ⟨[(.im (.st [(1, (.sl 1 (p0.b.map (eI .u8))))])), (.im (eI .i64 p1)), (.im (eI .i64 p2)), (.im (eI .i64 p3))], [], 0, (.tup [(.im (.st [(1, (eI .i64 r.1.Class)), (1, (eI .i64 r.1.Tag)), (1, (eB r.1.Made)), (1, (.sl 1 (r.1.Body.map (eI .u8)))), (1, (.sl 5 (r.1.Kids.map eSTlv)))])), (.im (eI .i64 r.2.1)), (.im (eEr r.2.2))]), [], 0⟩

def f60L0_P (k : Nat) : Prop := ∀ (fn : Func) (_ : fn.results = ([.c 8 35, .t 9, .t 10].map Rv.var).toArray), ∀ (p0 : SReader) (p1 : Int) (p2 : Int) (p3 : Int) (x1 : Int) (x2 : Int) (x9 : Int) (x10 : Int) (x11 : Bool) (x13 : (List STlv)) (r : STlv × Int × Er), f60L0 k p0 p1 p2 p3 x1 x2 x9 x10 x11 x13 = some r → LH PX ⟨fn, 118, 0, (.tup [(.im (.st [(1, (eI .i64 r.1.Class)), (1, (eI .i64 r.1.Tag)), (1, (eB r.1.Made)), (1, (.sl 1 (r.1.Body.map (eI .u8)))), (1, (.sl 5 (r.1.Kids.map eSTlv)))])), (.im (eI .i64 r.2.1)), (.im (eEr r.2.2))]), [], 0⟩ cc60_0 [.blk 1, .seq cc60_1] (f60L0_S p0 p1 p2 p3 x1 x2 x9 x10 x11 x13)

theorem f60_step (k : Nat) (ih_f60 : f60_P k) (ih_f60L0 : f60L0_P k) : f60_P (k + 1) := by
  intro p0 p1 p2 p3 r h
  rw [f60] at h
  by_cases h1 : p3 ≥ 16
  · rw [if_pos h1] at h
    obtain ⟨v1, h2, h⟩ := bnd h
    rcases h3 : v1 with _ | v2 | ⟨v2, v3⟩
    · rw [h3] at h; dsimp only [Er.on] at h
      replace h := Option.some.inj h; subst h
      exact Ct.ofWalk hT hm F60 (by kernel_rfl) (n := 1000) (ds := [.r [], .r [], .b true, .r [(3, ⟨(.c false [] ⟨[], [], [], 0, (.im (.v .nilIface)), [], 0, [], 2⟩), [], []⟩)], .k ⟨[], [], [], [], [], 0, [(0, (.s [(.s [.k, .k, .k, (.n 1), (.n 5)])]))], []⟩])
        (r := (.fin (.tup [(.im (.st [(1, (eI .i64 0)), (1, (eI .i64 0)), (1, (eB false)), (1, (.sl 1 [])), (1, (.sl 5 []))])), (.im (eI .i64 0)), (.im (.v .nilIface))]) [] 0)) (obs := [(decide (p3 ≥ 16)) = true, Ct.Ok PX 61 ⟨[(.im (eI .i64 p1)), (.im (.ifc 40 (eI .i64 9)))], [], 0, (.im (.v .nilIface)), [], 0⟩])
        (by kernel_rfl) ⟨(dt h1), (by have q := (f61_ok k p1 (Er.code 9) v1 h2); rw [h3] at q; exact q), trivial⟩ (fun fn hfn => ⟨rfl, rfl, rfl⟩)
    · rw [h3] at h; dsimp only [Er.on] at h
      replace h := Option.some.inj h; subst h
      exact Ct.ofWalk hT hm F60 (by kernel_rfl) (n := 1000) (ds := [.r [], .r [], .b true, .r [(3, ⟨(.c false [] ⟨[], [], [], 0, (.im (.ifc 40 (eI .i64 v2))), [], 0, [], 2⟩), [], []⟩)], .k ⟨[], [], [], [], [], 0, [(0, (.s [(.s [.k, .k, .k, (.n 1), (.n 5)])]))], []⟩])
        (r := (.fin (.tup [(.im (.st [(1, (eI .i64 0)), (1, (eI .i64 0)), (1, (eB false)), (1, (.sl 1 [])), (1, (.sl 5 []))])), (.im (eI .i64 0)), (.im (.ifc 40 (eI .i64 v2)))]) [] 0)) (obs := [(decide (p3 ≥ 16)) = true, Ct.Ok PX 61 ⟨[(.im (eI .i64 p1)), (.im (.ifc 40 (eI .i64 9)))], [], 0, (.im (.ifc 40 (eI .i64 v2))), [], 0⟩])
        (by kernel_rfl) ⟨(dt h1), (by have q := (f61_ok k p1 (Er.code 9) v1 h2); rw [h3] at q; exact q), trivial⟩ (fun fn hfn => ⟨rfl, rfl, rfl⟩)
    · rw [h3] at h; dsimp only [Er.on] at h
      replace h := Option.some.inj h; subst h
      exact Ct.ofWalk hT hm F60 (by kernel_rfl) (n := 1000) (ds := [.r [], .r [], .b true, .r [(3, ⟨(.c false [] ⟨[], [], [], 0, (.im (.ifc 77 (.pim 2 (.st [(1, (eI .i64 v2)), (1, (.ifc 40 (eI .i64 v3)))])))), [], 0, [], 2⟩), [], []⟩)], .k ⟨[], [], [], [], [], 0, [(0, (.s [(.s [.k, .k, .k, (.n 1), (.n 5)])]))], []⟩])
        (r := (.fin (.tup [(.im (.st [(1, (eI .i64 0)), (1, (eI .i64 0)), (1, (eB false)), (1, (.sl 1 [])), (1, (.sl 5 []))])), (.im (eI .i64 0)), (.im (.ifc 77 (.pim 2 (.st [(1, (eI .i64 v2)), (1, (.ifc 40 (eI .i64 v3)))]))))]) [] 0)) (obs := [(decide (p3 ≥ 16)) = true, Ct.Ok PX 61 ⟨[(.im (eI .i64 p1)), (.im (.ifc 40 (eI .i64 9)))], [], 0, (.im (.ifc 77 (.pim 2 (.st [(1, (eI .i64 v2)), (1, (.ifc 40 (eI .i64 v3)))])))), [], 0⟩])
        (by kernel_rfl) ⟨(dt h1), (by have q := (f61_ok k p1 (Er.code 9) v1 h2); rw [h3] at q; exact q), trivial⟩ (fun fn hfn => ⟨rfl, rfl, rfl⟩)
  · rw [if_neg h1] at h
    by_cases h2 : p1 ≥ p2
    · rw [if_pos h2] at h
      obtain ⟨v1, h3, h⟩ := bnd h
      rcases h4 : v1 with _ | v2 | ⟨v2, v3⟩
      · rw [h4] at h; dsimp only [Er.on] at h
        replace h := Option.some.inj h; subst h
        exact Ct.ofWalk hT hm F60 (by kernel_rfl) (n := 1000) (ds := [.r [], .r [], .b false, .r [], .b true, .r [(3, ⟨(.c false [] ⟨[], [], [], 0, (.im (.v .nilIface)), [], 0, [], 2⟩), [], []⟩)], .k ⟨[], [], [], [], [], 0, [(0, (.s [(.s [.k, .k, .k, (.n 1), (.n 5)])]))], []⟩])
          (r := (.fin (.tup [(.im (.st [(1, (eI .i64 0)), (1, (eI .i64 0)), (1, (eB false)), (1, (.sl 1 [])), (1, (.sl 5 []))])), (.im (eI .i64 0)), (.im (.v .nilIface))]) [] 0)) (obs := [(decide (p3 ≥ 16)) = false, (decide (p1 ≥ p2)) = true, Ct.Ok PX 61 ⟨[(.im (eI .i64 p1)), (.im (.ifc 40 (eI .i64 6)))], [], 0, (.im (.v .nilIface)), [], 0⟩])
          (by kernel_rfl) ⟨(df h1), (dt h2), (by have q := (f61_ok k p1 (Er.code 6) v1 h3); rw [h4] at q; exact q), trivial⟩ (fun fn hfn => ⟨rfl, rfl, rfl⟩)
      · rw [h4] at h; dsimp only [Er.on] at h
        replace h := Option.some.inj h; subst h
        exact Ct.ofWalk hT hm F60 (by kernel_rfl) (n := 1000) (ds := [.r [], .r [], .b false, .r [], .b true, .r [(3, ⟨(.c false [] ⟨[], [], [], 0, (.im (.ifc 40 (eI .i64 v2))), [], 0, [], 2⟩), [], []⟩)], .k ⟨[], [], [], [], [], 0, [(0, (.s [(.s [.k, .k, .k, (.n 1), (.n 5)])]))], []⟩])
          (r := (.fin (.tup [(.im (.st [(1, (eI .i64 0)), (1, (eI .i64 0)), (1, (eB false)), (1, (.sl 1 [])), (1, (.sl 5 []))])), (.im (eI .i64 0)), (.im (.ifc 40 (eI .i64 v2)))]) [] 0)) (obs := [(decide (p3 ≥ 16)) = false, (decide (p1 ≥ p2)) = true, Ct.Ok PX 61 ⟨[(.im (eI .i64 p1)), (.im (.ifc 40 (eI .i64 6)))], [], 0, (.im (.ifc 40 (eI .i64 v2))), [], 0⟩])
          (by kernel_rfl) ⟨(df h1), (dt h2), (by have q := (f61_ok k p1 (Er.code 6) v1 h3); rw [h4] at q; exact q), trivial⟩ (fun fn hfn => ⟨rfl, rfl, rfl⟩)
      · rw [h4] at h; dsimp only [Er.on] at h
        replace h := Option.some.inj h; subst h
        exact Ct.ofWalk hT hm F60 (by kernel_rfl) (n := 1000) (ds := [.r [], .r [], .b false, .r [], .b true, .r [(3, ⟨(.c false [] ⟨[], [], [], 0, (.im (.ifc 77 (.pim 2 (.st [(1, (eI .i64 v2)), (1, (.ifc 40 (eI .i64 v3)))])))), [], 0, [], 2⟩), [], []⟩)], .k ⟨[], [], [], [], [], 0, [(0, (.s [(.s [.k, .k, .k, (.n 1), (.n 5)])]))], []⟩])
          (r := (.fin (.tup [(.im (.st [(1, (eI .i64 0)), (1, (eI .i64 0)), (1, (eB false)), (1, (.sl 1 [])), (1, (.sl 5 []))])), (.im (eI .i64 0)), (.im (.ifc 77 (.pim 2 (.st [(1, (eI .i64 v2)), (1, (.ifc 40 (eI .i64 v3)))]))))]) [] 0)) (obs := [(decide (p3 ≥ 16)) = false, (decide (p1 ≥ p2)) = true, Ct.Ok PX 61 ⟨[(.im (eI .i64 p1)), (.im (.ifc 40 (eI .i64 6)))], [], 0, (.im (.ifc 77 (.pim 2 (.st [(1, (eI .i64 v2)), (1, (.ifc 40 (eI .i64 v3)))])))), [], 0⟩])
          (by kernel_rfl) ⟨(df h1), (dt h2), (by have q := (f61_ok k p1 (Er.code 6) v1 h3); rw [h4] at q; exact q), trivial⟩ (fun fn hfn => ⟨rfl, rfl, rfl⟩)
    · rw [if_neg h2] at h
      obtain ⟨v1, h3, h⟩ := bnd h
      by_cases h4 : (bitI .and .u8 v1 31) = 31
      · rw [if_pos h4] at h
        obtain ⟨v2, h5, h⟩ := bnd h
        rcases h6 : v2 with _ | v3 | ⟨v3, v4⟩
        · rw [h6] at h; dsimp only [Er.on] at h
          replace h := Option.some.inj h; subst h
          exact Ct.ofWalk hT hm F60 (by kernel_rfl) (n := 1000) (ds := [.r [], .r [], .b false, .r [], .b false, .r [(3, ⟨(.h (.iv (eI .u8 v1))), [], []⟩)], .b true, .r [(3, ⟨(.c false [] ⟨[], [], [], 0, (.im (.v .nilIface)), [], 0, [], 2⟩), [], []⟩)], .k ⟨[], [], [], [], [], 0, [(0, (.s [(.s [.k, .k, .k, (.n 1), (.n 5)])]))], []⟩])
            (r := (.fin (.tup [(.im (.st [(1, (eI .i64 0)), (1, (eI .i64 0)), (1, (eB false)), (1, (.sl 1 [])), (1, (.sl 5 []))])), (.im (eI .i64 0)), (.im (.v .nilIface))]) [] 0)) (obs := [(decide (p3 ≥ 16)) = false, (decide (p1 ≥ p2)) = false, 0 ≤ p1, (p0.b.map (eI .u8))[(p1).toNat]? = some (eI .u8 v1), ((bitI .and .u8 v1 31) == 31) = true, Ct.Ok PX 61 ⟨[(.im (eI .i64 p1)), (.im (.ifc 40 (eI .i64 7)))], [], 0, (.im (.v .nilIface)), [], 0⟩])
            (by kernel_rfl) ⟨(df h1), (df h2), (rd_nn h3), (rd_map (eI .u8) h3), (bt h4), (by have q := (f61_ok k p1 (Er.code 7) v2 h5); rw [h6] at q; exact q), trivial⟩ (fun fn hfn => ⟨rfl, rfl, rfl⟩)
        · rw [h6] at h; dsimp only [Er.on] at h
          replace h := Option.some.inj h; subst h
          exact Ct.ofWalk hT hm F60 (by kernel_rfl) (n := 1000) (ds := [.r [], .r [], .b false, .r [], .b false, .r [(3, ⟨(.h (.iv (eI .u8 v1))), [], []⟩)], .b true, .r [(3, ⟨(.c false [] ⟨[], [], [], 0, (.im (.ifc 40 (eI .i64 v3))), [], 0, [], 2⟩), [], []⟩)], .k ⟨[], [], [], [], [], 0, [(0, (.s [(.s [.k, .k, .k, (.n 1), (.n 5)])]))], []⟩])
            (r := (.fin (.tup [(.im (.st [(1, (eI .i64 0)), (1, (eI .i64 0)), (1, (eB false)), (1, (.sl 1 [])), (1, (.sl 5 []))])), (.im (eI .i64 0)), (.im (.ifc 40 (eI .i64 v3)))]) [] 0)) (obs := [(decide (p3 ≥ 16)) = false, (decide (p1 ≥ p2)) = false, 0 ≤ p1, (p0.b.map (eI .u8))[(p1).toNat]? = some (eI .u8 v1), ((bitI .and .u8 v1 31) == 31) = true, Ct.Ok PX 61 ⟨[(.im (eI .i64 p1)), (.im (.ifc 40 (eI .i64 7)))], [], 0, (.im (.ifc 40 (eI .i64 v3))), [], 0⟩])
            (by kernel_rfl) ⟨(df h1), (df h2), (rd_nn h3), (rd_map (eI .u8) h3), (bt h4), (by have q := (f61_ok k p1 (Er.code 7) v2 h5); rw [h6] at q; exact q), trivial⟩ (fun fn hfn => ⟨rfl, rfl, rfl⟩)
        · rw [h6] at h; dsimp only [Er.on] at h
          replace h := Option.some.inj h; subst h
          exact Ct.ofWalk hT hm F60 (by kernel_rfl) (n := 1000) (ds := [.r [], .r [], .b false, .r [], .b false, .r [(3, ⟨(.h (.iv (eI .u8 v1))), [], []⟩)], .b true, .r [(3, ⟨(.c false [] ⟨[], [], [], 0, (.im (.ifc 77 (.pim 2 (.st [(1, (eI .i64 v3)), (1, (.ifc 40 (eI .i64 v4)))])))), [], 0, [], 2⟩), [], []⟩)], .k ⟨[], [], [], [], [], 0, [(0, (.s [(.s [.k, .k, .k, (.n 1), (.n 5)])]))], []⟩])
            (r := (.fin (.tup [(.im (.st [(1, (eI .i64 0)), (1, (eI .i64 0)), (1, (eB false)), (1, (.sl 1 [])), (1, (.sl 5 []))])), (.im (eI .i64 0)), (.im (.ifc 77 (.pim 2 (.st [(1, (eI .i64 v3)), (1, (.ifc 40 (eI .i64 v4)))]))))]) [] 0)) (obs := [(decide (p3 ≥ 16)) = false, (decide (p1 ≥ p2)) = false, 0 ≤ p1, (p0.b.map (eI .u8))[(p1).toNat]? = some (eI .u8 v1), ((bitI .and .u8 v1 31) == 31) = true, Ct.Ok PX 61 ⟨[(.im (eI .i64 p1)), (.im (.ifc 40 (eI .i64 7)))], [], 0, (.im (.ifc 77 (.pim 2 (.st [(1, (eI .i64 v3)), (1, (.ifc 40 (eI .i64 v4)))])))), [], 0⟩])
            (by kernel_rfl) ⟨(df h1), (df h2), (rd_nn h3), (rd_map (eI .u8) h3), (bt h4), (by have q := (f61_ok k p1 (Er.code 7) v2 h5); rw [h6] at q; exact q), trivial⟩ (fun fn hfn => ⟨rfl, rfl, rfl⟩)
      · rw [if_neg h4] at h
        obtain ⟨v2, h5, h⟩ := bnd h
        rcases h6 : v2.2.2 with _ | v3 | ⟨v3, v4⟩
        · rw [h6] at h; dsimp only [Er.on] at h
          by_cases h7 : (bitI .and .u8 v1 32) = 0
          · rw [if_pos h7] at h
            obtain ⟨v3, h8, h⟩ := bnd h
            obtain ⟨v4, h9, h⟩ := bnd h
            replace h := Option.some.inj h; subst h
            exact Ct.ofWalk hT hm F60 (by kernel_rfl) (n := 1000) (ds := [.r [], .r [], .b false, .r [], .b false, .r [(3, ⟨(.h (.iv (eI .u8 v1))), [], []⟩)], .b false, .r [(3, ⟨(.h (.iv (eI .u8 v1))), [], []⟩), (10, ⟨(.h (.iv (eI .u8 v1))), [], []⟩), (17, ⟨(.h (.iv (eI .u8 v1))), [], []⟩)], .r [(4, ⟨(.c false [] ⟨[], [], [], 0, (.tup [(.im (eI .i64 v2.1)), (.im (eI .i64 v2.2.1)), (.im (.v .nilIface))]), [], 0, [], 3⟩), [], []⟩)], .r [], .bc false, .r [], .b true, .r [(4, ⟨(.h (.ivs (v3.map (eI .u8)))), [], []⟩), (5, ⟨(.c false [] ⟨[], [], [], 0, (.im (.sl 1 (v4.map (eI .u8)))), [], 0, [], 3⟩), [], []⟩)], .r [], .k ⟨[], [], [], [], [], 0, [(0, (.s [(.s [.k, .k, .k, .k, (.n 5)])]))], []⟩])
              (r := (.fin (.tup [(.im (.st [(1, (eI .i64 (IntKind.wrap .i64 (shrI .u8 v1 6)))), (1, (eI .i64 (IntKind.wrap .i64 (bitI .and .u8 v1 31)))), (1, (eB ((bitI .and .u8 v1 32) != 0))), (1, (.sl 1 (v4.map (eI .u8)))), (1, (.sl 5 []))])), (.im (eI .i64 v2.2.1)), (.im (.v .nilIface))]) [] 0)) (obs := [(decide (p3 ≥ 16)) = false, (decide (p1 ≥ p2)) = false, 0 ≤ p1, (p0.b.map (eI .u8))[(p1).toNat]? = some (eI .u8 v1), ((bitI .and .u8 v1 31) == 31) = false, 0 ≤ p1, (p0.b.map (eI .u8))[(p1).toNat]? = some (eI .u8 v1), 0 ≤ p1, (p0.b.map (eI .u8))[(p1).toNat]? = some (eI .u8 v1), 0 ≤ p1, (p0.b.map (eI .u8))[(p1).toNat]? = some (eI .u8 v1), Ct.Ok PX 108 ⟨[(.im (.st [(1, (.sl 1 (p0.b.map (eI .u8))))])), (.im (eI .i64 (IntKind.wrap .i64 (p1 + 1)))), (.im (eI .i64 p2))], [], 0, (.tup [(.im (eI .i64 v2.1)), (.im (eI .i64 v2.2.1)), (.im (.v .nilIface))]), [], 0⟩, (!((bitI .and .u8 v1 32) != 0)) = true, (0 : Int) ≤ v2.1, (v2.1 : Int) ≤ v2.2.1, v2.2.1 ≤ ((p0.b.map (eI .u8)).length : Int), ((p0.b.map (eI .u8)).drop (v2.1 : Int).toNat).take ((v2.2.1 : Int).toNat - (v2.1 : Int).toNat) = (v3.map (eI .u8)), Ct.Ok PX 109 ⟨[(.im (.sl 1 (v3.map (eI .u8))))], [], 0, (.im (.sl 1 (v4.map (eI .u8)))), [], 0⟩])
              (by kernel_rfl) ⟨(df h1), (df h2), (rd_nn h3), (rd_map (eI .u8) h3), (bf h4), (rd_nn h3), (rd_map (eI .u8) h3), (rd_nn h3), (rd_map (eI .u8) h3), (rd_nn h3), (rd_map (eI .u8) h3), (by have q := (f108_ok k p0 (IntKind.wrap .i64 (p1 + 1)) p2 v2 h5); rw [h6] at q; exact q), (not_t (nf h7)), (sl_ok h8).1, (sl_ok h8).2.1, (sl_len (eI .u8) h8), (sl_map (eI .u8) h8), (f109c_ok k v3 v4 h9), trivial⟩ (fun fn hfn => ⟨rfl, rfl, rfl⟩)
          · rw [if_neg h7] at h
            exact Ct.ofWalk hT hm F60 (by kernel_rfl) (n := 1000) (ds := [.r [], .r [], .b false, .r [], .b false, .r [(3, ⟨(.h (.iv (eI .u8 v1))), [], []⟩)], .b false, .r [(3, ⟨(.h (.iv (eI .u8 v1))), [], []⟩), (10, ⟨(.h (.iv (eI .u8 v1))), [], []⟩), (17, ⟨(.h (.iv (eI .u8 v1))), [], []⟩)], .r [(4, ⟨(.c false [] ⟨[], [], [], 0, (.tup [(.im (eI .i64 v2.1)), (.im (eI .i64 v2.2.1)), (.im (.v .nilIface))]), [], 0, [], 3⟩), [], []⟩)], .r [], .bc false, .r [], .b false, .k ⟨[(2, [4], 35, 5)], [], [], [3, 4, 8, 11, 12, 13], [(0, 0), (1, 1), (2, 2), (3, 3)], 4, [], []⟩])
              (r := (.head cc60_0 [.blk 1, .seq cc60_1] (f60L0_S p0 p1 p2 p3 v2.1 v2.2.1 (IntKind.wrap .i64 (shrI .u8 v1 6)) (IntKind.wrap .i64 (bitI .and .u8 v1 31)) ((bitI .and .u8 v1 32) != 0) []))) (obs := [(decide (p3 ≥ 16)) = false, (decide (p1 ≥ p2)) = false, 0 ≤ p1, (p0.b.map (eI .u8))[(p1).toNat]? = some (eI .u8 v1), ((bitI .and .u8 v1 31) == 31) = false, 0 ≤ p1, (p0.b.map (eI .u8))[(p1).toNat]? = some (eI .u8 v1), 0 ≤ p1, (p0.b.map (eI .u8))[(p1).toNat]? = some (eI .u8 v1), 0 ≤ p1, (p0.b.map (eI .u8))[(p1).toNat]? = some (eI .u8 v1), Ct.Ok PX 108 ⟨[(.im (.st [(1, (.sl 1 (p0.b.map (eI .u8))))])), (.im (eI .i64 (IntKind.wrap .i64 (p1 + 1)))), (.im (eI .i64 p2))], [], 0, (.tup [(.im (eI .i64 v2.1)), (.im (eI .i64 v2.2.1)), (.im (.v .nilIface))]), [], 0⟩, (!((bitI .and .u8 v1 32) != 0)) = false])
              (by kernel_rfl) ⟨(df h1), (df h2), (rd_nn h3), (rd_map (eI .u8) h3), (bf h4), (rd_nn h3), (rd_map (eI .u8) h3), (rd_nn h3), (rd_map (eI .u8) h3), (rd_nn h3), (rd_map (eI .u8) h3), (by have q := (f108_ok k p0 (IntKind.wrap .i64 (p1 + 1)) p2 v2 h5); rw [h6] at q; exact q), (not_f (nt h7)), trivial⟩ (fun fn hfn => ih_f60L0 fn hfn p0 p1 p2 p3 v2.1 v2.2.1 (IntKind.wrap .i64 (shrI .u8 v1 6)) (IntKind.wrap .i64 (bitI .and .u8 v1 31)) ((bitI .and .u8 v1 32) != 0) [] _ h)
        · rw [h6] at h; dsimp only [Er.on] at h
          replace h := Option.some.inj h; subst h
          exact Ct.ofWalk hT hm F60 (by kernel_rfl) (n := 1000) (ds := [.r [], .r [], .b false, .r [], .b false, .r [(3, ⟨(.h (.iv (eI .u8 v1))), [], []⟩)], .b false, .r [(3, ⟨(.h (.iv (eI .u8 v1))), [], []⟩), (10, ⟨(.h (.iv (eI .u8 v1))), [], []⟩), (17, ⟨(.h (.iv (eI .u8 v1))), [], []⟩)], .r [(4, ⟨(.c false [] ⟨[], [], [], 0, (.tup [(.im (eI .i64 v2.1)), (.im (eI .i64 v2.2.1)), (.im (.ifc 40 (eI .i64 v3)))]), [], 0, [], 3⟩), [], []⟩)], .r [], .bc true, .r [], .k ⟨[], [], [], [], [], 0, [(0, (.s [(.s [.k, .k, .k, (.n 1), (.n 5)])]))], []⟩])
            (r := (.fin (.tup [(.im (.st [(1, (eI .i64 0)), (1, (eI .i64 0)), (1, (eB false)), (1, (.sl 1 [])), (1, (.sl 5 []))])), (.im (eI .i64 0)), (.im (.ifc 40 (eI .i64 v3)))]) [] 0)) (obs := [(decide (p3 ≥ 16)) = false, (decide (p1 ≥ p2)) = false, 0 ≤ p1, (p0.b.map (eI .u8))[(p1).toNat]? = some (eI .u8 v1), ((bitI .and .u8 v1 31) == 31) = false, 0 ≤ p1, (p0.b.map (eI .u8))[(p1).toNat]? = some (eI .u8 v1), 0 ≤ p1, (p0.b.map (eI .u8))[(p1).toNat]? = some (eI .u8 v1), 0 ≤ p1, (p0.b.map (eI .u8))[(p1).toNat]? = some (eI .u8 v1), Ct.Ok PX 108 ⟨[(.im (.st [(1, (.sl 1 (p0.b.map (eI .u8))))])), (.im (eI .i64 (IntKind.wrap .i64 (p1 + 1)))), (.im (eI .i64 p2))], [], 0, (.tup [(.im (eI .i64 v2.1)), (.im (eI .i64 v2.2.1)), (.im (.ifc 40 (eI .i64 v3)))]), [], 0⟩])
            (by kernel_rfl) ⟨(df h1), (df h2), (rd_nn h3), (rd_map (eI .u8) h3), (bf h4), (rd_nn h3), (rd_map (eI .u8) h3), (rd_nn h3), (rd_map (eI .u8) h3), (rd_nn h3), (rd_map (eI .u8) h3), (by have q := (f108_ok k p0 (IntKind.wrap .i64 (p1 + 1)) p2 v2 h5); rw [h6] at q; exact q), trivial⟩ (fun fn hfn => ⟨rfl, rfl, rfl⟩)
        · rw [h6] at h; dsimp only [Er.on] at h
          replace h := Option.some.inj h; subst h
          exact Ct.ofWalk hT hm F60 (by kernel_rfl) (n := 1000) (ds := [.r [], .r [], .b false, .r [], .b false, .r [(3, ⟨(.h (.iv (eI .u8 v1))), [], []⟩)], .b false, .r [(3, ⟨(.h (.iv (eI .u8 v1))), [], []⟩), (10, ⟨(.h (.iv (eI .u8 v1))), [], []⟩), (17, ⟨(.h (.iv (eI .u8 v1))), [], []⟩)], .r [(4, ⟨(.c false [] ⟨[], [], [], 0, (.tup [(.im (eI .i64 v2.1)), (.im (eI .i64 v2.2.1)), (.im (.ifc 77 (.pim 2 (.st [(1, (eI .i64 v3)), (1, (.ifc 40 (eI .i64 v4)))]))))]), [], 0, [], 3⟩), [], []⟩)], .r [], .bc true, .r [], .k ⟨[], [], [], [], [], 0, [(0, (.s [(.s [.k, .k, .k, (.n 1), (.n 5)])]))], []⟩])
            (r := (.fin (.tup [(.im (.st [(1, (eI .i64 0)), (1, (eI .i64 0)), (1, (eB false)), (1, (.sl 1 [])), (1, (.sl 5 []))])), (.im (eI .i64 0)), (.im (.ifc 77 (.pim 2 (.st [(1, (eI .i64 v3)), (1, (.ifc 40 (eI .i64 v4)))]))))]) [] 0)) (obs := [(decide (p3 ≥ 16)) = false, (decide (p1 ≥ p2)) = false, 0 ≤ p1, (p0.b.map (eI .u8))[(p1).toNat]? = some (eI .u8 v1), ((bitI .and .u8 v1 31) == 31) = false, 0 ≤ p1, (p0.b.map (eI .u8))[(p1).toNat]? = some (eI .u8 v1), 0 ≤ p1, (p0.b.map (eI .u8))[(p1).toNat]? = some (eI .u8 v1), 0 ≤ p1, (p0.b.map (eI .u8))[(p1).toNat]? = some (eI .u8 v1), Ct.Ok PX 108 ⟨[(.im (.st [(1, (.sl 1 (p0.b.map (eI .u8))))])), (.im (eI .i64 (IntKind.wrap .i64 (p1 + 1)))), (.im (eI .i64 p2))], [], 0, (.tup [(.im (eI .i64 v2.1)), (.im (eI .i64 v2.2.1)), (.im (.ifc 77 (.pim 2 (.st [(1, (eI .i64 v3)), (1, (.ifc 40 (eI .i64 v4)))]))))]), [], 0⟩])
            (by kernel_rfl) ⟨(df h1), (df h2), (rd_nn h3), (rd_map (eI .u8) h3), (bf h4), (rd_nn h3), (rd_map (eI .u8) h3), (rd_nn h3), (rd_map (eI .u8) h3), (rd_nn h3), (rd_map (eI .u8) h3), (by have q := (f108_ok k p0 (IntKind.wrap .i64 (p1 + 1)) p2 v2 h5); rw [h6] at q; exact q), trivial⟩ (fun fn hfn => ⟨rfl, rfl, rfl⟩)

theorem f60L0_step (k : Nat) (ih_f60 : f60_P k) (ih_f60L0 : f60L0_P k) : f60L0_P (k + 1) := by
  intro fn hfn p0 p1 p2 p3 x1 x2 x9 x10 x11 x13 r h
  rw [f60L0] at h
  by_cases h1 : x1 < x2
  · rw [if_pos h1] at h
    obtain ⟨v1, h2, h⟩ := bnd h
    rcases h3 : v1.2.2 with _ | v2 | ⟨v2, v3⟩
    · rw [h3] at h; dsimp only [Er.on] at h
      obtain ⟨v2, h4, h⟩ := bnd h
      exact LH.round hT hm hfn (n := 1000) (ds := [.r [], .b true, .r [(5, ⟨(.c false [] ⟨[], [], [], 0, (.tup [(.im (.st [(1, (eI .i64 v1.1.Class)), (1, (eI .i64 v1.1.Tag)), (1, (eB v1.1.Made)), (1, (.sl 1 (v1.1.Body.map (eI .u8)))), (1, (.sl 5 (v1.1.Kids.map eSTlv)))])), (.im (eI .i64 v1.2.1)), (.im (.v .nilIface))]), [], 0, [], 4⟩), [], []⟩)], .r [], .bc false, .r [(4, ⟨(.h (.ivs (v2.map eSTlv))), [], []⟩)], .r [], .k ⟨[], [], [], [3, 4, 8, 11, 12, 13], [(0, 0), (1, 1), (2, 2), (3, 6)], 4, [], []⟩])
        (r := (.head cc60_0 [.blk 1, .seq cc60_1] (f60L0_S p0 p1 p2 p3 v1.2.1 x2 x9 x10 x11 v2))) (obs := [(decide (x1 < x2)) = true, Ct.Ok PX 60 ⟨[(.im (.st [(1, (.sl 1 (p0.b.map (eI .u8))))])), (.im (eI .i64 x1)), (.im (eI .i64 x2)), (.im (eI .i64 (IntKind.wrap .i64 (p3 + 1))))], [], 0, (.tup [(.im (.st [(1, (eI .i64 v1.1.Class)), (1, (eI .i64 v1.1.Tag)), (1, (eB v1.1.Made)), (1, (.sl 1 (v1.1.Body.map (eI .u8)))), (1, (.sl 5 (v1.1.Kids.map eSTlv)))])), (.im (eI .i64 v1.2.1)), (.im (.v .nilIface))]), [], 0⟩, (x13.map eSTlv) ++ [(.st [(1, (eI .i64 v1.1.Class)), (1, (eI .i64 v1.1.Tag)), (1, (eB v1.1.Made)), (1, (.sl 1 (v1.1.Body.map (eI .u8)))), (1, (.sl 5 (v1.1.Kids.map eSTlv)))])] = (v2.map eSTlv), (v2.map eSTlv).length * 72 ≤ 140737488355328, (v2.map eSTlv).length ≤ 9223372036854775807])
        (by kernel_rfl) ⟨(dt h1), (by have q := (ih_f60 p0 x1 x2 (IntKind.wrap .i64 (p3 + 1)) v1 h2); rw [h3] at q; exact q), ((congr (congrArg HAppend.hAppend rfl) (show [(.st [(1, (eI .i64 v1.1.Class)), (1, (eI .i64 v1.1.Tag)), (1, (eB v1.1.Made)), (1, (.sl 1 (v1.1.Body.map (eI .u8)))), (1, (.sl 5 (v1.1.Kids.map eSTlv)))])] = [v1.1].map eSTlv from by simp only [List.map_cons, List.map_nil, eSTlv_eq, STlv.Class, STlv.Tag, STlv.Made, STlv.Body, STlv.Kids])).trans (ap_map eSTlv h4)), (ap_b eSTlv h4), (ap_n eSTlv h4), trivial⟩ (ih_f60L0 fn hfn p0 p1 p2 p3 v1.2.1 x2 x9 x10 x11 v2 _ h)
    · rw [h3] at h; dsimp only [Er.on] at h
      replace h := Option.some.inj h; subst h
      exact LH.round hT hm hfn (n := 1000) (ds := [.r [], .b true, .r [(5, ⟨(.c false [] ⟨[], [], [], 0, (.tup [(.im (.st [(1, (eI .i64 v1.1.Class)), (1, (eI .i64 v1.1.Tag)), (1, (eB v1.1.Made)), (1, (.sl 1 (v1.1.Body.map (eI .u8)))), (1, (.sl 5 (v1.1.Kids.map eSTlv)))])), (.im (eI .i64 v1.2.1)), (.im (.ifc 40 (eI .i64 v2)))]), [], 0, [], 4⟩), [], []⟩)], .r [], .bc true, .r [], .k ⟨[], [], [], [], [], 0, [(0, (.s [(.s [.k, .k, .k, (.n 1), (.n 5)])]))], []⟩])
        (r := (.fin (.tup [(.im (.st [(1, (eI .i64 0)), (1, (eI .i64 0)), (1, (eB false)), (1, (.sl 1 [])), (1, (.sl 5 []))])), (.im (eI .i64 0)), (.im (.ifc 40 (eI .i64 v2)))]) [] 0)) (obs := [(decide (x1 < x2)) = true, Ct.Ok PX 60 ⟨[(.im (.st [(1, (.sl 1 (p0.b.map (eI .u8))))])), (.im (eI .i64 x1)), (.im (eI .i64 x2)), (.im (eI .i64 (IntKind.wrap .i64 (p3 + 1))))], [], 0, (.tup [(.im (.st [(1, (eI .i64 v1.1.Class)), (1, (eI .i64 v1.1.Tag)), (1, (eB v1.1.Made)), (1, (.sl 1 (v1.1.Body.map (eI .u8)))), (1, (.sl 5 (v1.1.Kids.map eSTlv)))])), (.im (eI .i64 v1.2.1)), (.im (.ifc 40 (eI .i64 v2)))]), [], 0⟩])
        (by kernel_rfl) ⟨(dt h1), (by have q := (ih_f60 p0 x1 x2 (IntKind.wrap .i64 (p3 + 1)) v1 h2); rw [h3] at q; exact q), trivial⟩ ⟨rfl, rfl, rfl⟩
    · rw [h3] at h; dsimp only [Er.on] at h
      replace h := Option.some.inj h; subst h
      exact LH.round hT hm hfn (n := 1000) (ds := [.r [], .b true, .r [(5, ⟨(.c false [] ⟨[], [], [], 0, (.tup [(.im (.st [(1, (eI .i64 v1.1.Class)), (1, (eI .i64 v1.1.Tag)), (1, (eB v1.1.Made)), (1, (.sl 1 (v1.1.Body.map (eI .u8)))), (1, (.sl 5 (v1.1.Kids.map eSTlv)))])), (.im (eI .i64 v1.2.1)), (.im (.ifc 77 (.pim 2 (.st [(1, (eI .i64 v2)), (1, (.ifc 40 (eI .i64 v3)))]))))]), [], 0, [], 4⟩), [], []⟩)], .r [], .bc true, .r [], .k ⟨[], [], [], [], [], 0, [(0, (.s [(.s [.k, .k, .k, (.n 1), (.n 5)])]))], []⟩])
        (r := (.fin (.tup [(.im (.st [(1, (eI .i64 0)), (1, (eI .i64 0)), (1, (eB false)), (1, (.sl 1 [])), (1, (.sl 5 []))])), (.im (eI .i64 0)), (.im (.ifc 77 (.pim 2 (.st [(1, (eI .i64 v2)), (1, (.ifc 40 (eI .i64 v3)))]))))]) [] 0)) (obs := [(decide (x1 < x2)) = true, Ct.Ok PX 60 ⟨[(.im (.st [(1, (.sl 1 (p0.b.map (eI .u8))))])), (.im (eI .i64 x1)), (.im (eI .i64 x2)), (.im (eI .i64 (IntKind.wrap .i64 (p3 + 1))))], [], 0, (.tup [(.im (.st [(1, (eI .i64 v1.1.Class)), (1, (eI .i64 v1.1.Tag)), (1, (eB v1.1.Made)), (1, (.sl 1 (v1.1.Body.map (eI .u8)))), (1, (.sl 5 (v1.1.Kids.map eSTlv)))])), (.im (eI .i64 v1.2.1)), (.im (.ifc 77 (.pim 2 (.st [(1, (eI .i64 v2)), (1, (.ifc 40 (eI .i64 v3)))]))))]), [], 0⟩])
        (by kernel_rfl) ⟨(dt h1), (by have q := (ih_f60 p0 x1 x2 (IntKind.wrap .i64 (p3 + 1)) v1 h2); rw [h3] at q; exact q), trivial⟩ ⟨rfl, rfl, rfl⟩
  · rw [if_neg h1] at h
    replace h := Option.some.inj h; subst h
    exact LH.round hT hm hfn (n := 1000) (ds := [.r [], .b false, .r [], .k ⟨[], [], [3], [], [], 0, [(0, (.s [(.s [.k, .k, .k, (.n 1)])]))], []⟩])
      (r := (.fin (.tup [(.im (.st [(1, (eI .i64 x9)), (1, (eI .i64 x10)), (1, (eB x11)), (1, (.sl 1 [])), (1, (.sl 5 (x13.map eSTlv)))])), (.im (eI .i64 x2)), (.im (.v .nilIface))]) [] 0)) (obs := [(decide (x1 < x2)) = false])
      (by kernel_rfl) ⟨(df h1), trivial⟩ ⟨rfl, rfl, rfl⟩

theorem f60_all : ∀ k, f60_P k ∧ f60L0_P k
  | 0 => ⟨(by intro _ _ _ _ r h; rw [f60] at h; cases h), (by intro fn hfn _ _ _ _ _ _ _ _ _ _ r h; rw [f60L0] at h; cases h)⟩
  | k + 1 => ⟨f60_step k (f60_all k).1 (f60_all k).2, f60L0_step k (f60_all k).1 (f60_all k).2⟩

theorem f60_ok (k : Nat) : ∀ (p0 : SReader) (p1 : Int) (p2 : Int) (p3 : Int) (r : STlv × Int × Er), f60 k p0 p1 p2 p3 = some r → Ct.Ok PX 60 ⟨[(.im (.st [(1, (.sl 1 (p0.b.map (eI .u8))))])), (.im (eI .i64 p1)), (.im (eI .i64 p2)), (.im (eI .i64 p3))], [], 0, (.tup [(.im (.st [(1, (eI .i64 r.1.Class)), (1, (eI .i64 r.1.Tag)), (1, (eB r.1.Made)), (1, (.sl 1 (r.1.Body.map (eI .u8)))), (1, (.sl 5 (r.1.Kids.map eSTlv)))])), (.im (eI .i64 r.2.1)), (.im (eEr r.2.2))]), [], 0⟩ := (f60_all k).1

theorem f60L0_ok (fn : Func) (hfn : fn.results = ([.c 8 35, .t 9, .t 10].map Rv.var).toArray) (k : Nat) : ∀ (p0 : SReader) (p1 : Int) (p2 : Int) (p3 : Int) (x1 : Int) (x2 : Int) (x9 : Int) (x10 : Int) (x11 : Bool) (x13 : (List STlv)) (r : STlv × Int × Er), f60L0 k p0 p1 p2 p3 x1 x2 x9 x10 x11 x13 = some r → LH PX ⟨fn, 118, 0, (.tup [(.im (.st [(1, (eI .i64 r.1.Class)), (1, (eI .i64 r.1.Tag)), (1, (eB r.1.Made)), (1, (.sl 1 (r.1.Body.map (eI .u8)))), (1, (.sl 5 (r.1.Kids.map eSTlv)))])), (.im (eI .i64 r.2.1)), (.im (eEr r.2.2))]), [], 0⟩ cc60_0 [.blk 1, .seq cc60_1] (f60L0_S p0 p1 p2 p3 x1 x2 x9 x10 x11 x13) := (f60_all k).2 fn hfn
end Go.Proofs.Tryd.E
end

section
namespace Go.Proofs.Tryd.E
open Go Go.Eng
set_option maxRecDepth 100000
set_option linter.unusedVariables false
def f24 (k : Nat) (p0 : (List Int)) : Option (STlv × Er) :=
  if (p0.length : Int) > 1048576 then (
   some ((STlv.mk 0 0 false [] []), (Er.code 2)))
  else (
   (f60 k (SReader.mk p0) 0 (p0.length : Int) 0).bind fun v1 =>
   Er.on v1.2.2 (
    if v1.2.1 < (p0.length : Int) then (
     (f61 k v1.2.1 (Er.code 8)).bind fun v2 =>
     Er.on v2 (
      some ((STlv.mk 0 0 false [] []), Er.nil))
      (fun v3 =>
      some ((STlv.mk 0 0 false [] []), (Er.code v3)))
      (fun v3 v4 =>
      some ((STlv.mk 0 0 false [] []), (Er.spot v3 v4))))
    else (
     some (v1.1, Er.nil)))
    (fun v2 =>
    some ((STlv.mk 0 0 false [] []), (Er.code v2)))
    (fun v2 v3 =>
    some ((STlv.mk 0 0 false [] []), (Er.spot v2 v3))))

theorem f24_ok (k : Nat) : ∀ (p0 : (List Int)) (r : STlv × Er), f24 k p0 = some r → Ct.Ok PX 24 ⟨[(.im (.sl 1 (p0.map (eI .u8))))], [], 0, (.tup [(.im (.st [(1, (eI .i64 r.1.Class)), (1, (eI .i64 r.1.Tag)), (1, (eB r.1.Made)), (1, (.sl 1 (r.1.Body.map (eI .u8)))), (1, (.sl 5 (r.1.Kids.map eSTlv)))])), (.im (eEr r.2))]), [], 0⟩ := by
  intro p0 r h
  unfold f24 at h
  by_cases h1 : (p0.length : Int) > 1048576
  · rw [if_pos h1] at h
    replace h := Option.some.inj h; subst h
    exact Ct.ofWalk hT hm F24 (by kernel_rfl) (n := 1000) (ds := [.r [], .r [(1, ⟨(.h (.int (p0.length : Int))), [], []⟩)], .b true, .r [], .k ⟨[], [], [], [], [], 0, [(0, (.s [(.s [.k, .k, .k, (.n 1), (.n 5)])]))], []⟩])
      (r := (.fin (.tup [(.im (.st [(1, (eI .i64 0)), (1, (eI .i64 0)), (1, (eB false)), (1, (.sl 1 [])), (1, (.sl 5 []))])), (.im (.ifc 40 (eI .i64 2)))]) [] 0)) (obs := [((p0.map (eI .u8)).length : Int) = (p0.length : Int), (decide ((p0.length : Int) > 1048576)) = true])
      (by kernel_rfl) ⟨(len_m (eI .u8) _), (dt h1), trivial⟩ (fun fn hfn => ⟨rfl, rfl, rfl⟩)
  · rw [if_neg h1] at h
    obtain ⟨v1, h2, h⟩ := bnd h
    rcases h3 : v1.2.2 with _ | v2 | ⟨v2, v3⟩
    · rw [h3] at h; dsimp only [Er.on] at h
      by_cases h4 : v1.2.1 < (p0.length : Int)
      · rw [if_pos h4] at h
        obtain ⟨v2, h5, h⟩ := bnd h
        rcases h6 : v2 with _ | v3 | ⟨v3, v4⟩
        · rw [h6] at h; dsimp only [Er.on] at h
          replace h := Option.some.inj h; subst h
          exact Ct.ofWalk hT hm F24 (by kernel_rfl) (n := 1000) (ds := [.r [], .r [(1, ⟨(.h (.int (p0.length : Int))), [], []⟩)], .b false, .r [(3, ⟨(.h (.int (p0.length : Int))), [], []⟩), (4, ⟨(.c false [] ⟨[], [], [], 0, (.tup [(.im (.st [(1, (eI .i64 v1.1.Class)), (1, (eI .i64 v1.1.Tag)), (1, (eB v1.1.Made)), (1, (.sl 1 (v1.1.Body.map (eI .u8)))), (1, (.sl 5 (v1.1.Kids.map eSTlv)))])), (.im (eI .i64 v1.2.1)), (.im (.v .nilIface))]), [], 0, [], 1⟩), [], []⟩)], .r [], .bc false, .r [(2, ⟨(.h (.int (p0.length : Int))), [], []⟩)], .b true, .r [(3, ⟨(.c false [] ⟨[], [], [], 0, (.im (.v .nilIface)), [], 0, [], 2⟩), [], []⟩)], .k ⟨[], [], [], [], [], 0, [(0, (.s [(.s [.k, .k, .k, (.n 1), (.n 5)])]))], []⟩])
            (r := (.fin (.tup [(.im (.st [(1, (eI .i64 0)), (1, (eI .i64 0)), (1, (eB false)), (1, (.sl 1 [])), (1, (.sl 5 []))])), (.im (.v .nilIface))]) [] 0)) (obs := [((p0.map (eI .u8)).length : Int) = (p0.length : Int), (decide ((p0.length : Int) > 1048576)) = false, ((p0.map (eI .u8)).length : Int) = (p0.length : Int), Ct.Ok PX 60 ⟨[(.im (.st [(1, (.sl 1 (p0.map (eI .u8))))])), (.im (eI .i64 0)), (.im (eI .i64 (p0.length : Int))), (.im (eI .i64 0))], [], 0, (.tup [(.im (.st [(1, (eI .i64 v1.1.Class)), (1, (eI .i64 v1.1.Tag)), (1, (eB v1.1.Made)), (1, (.sl 1 (v1.1.Body.map (eI .u8)))), (1, (.sl 5 (v1.1.Kids.map eSTlv)))])), (.im (eI .i64 v1.2.1)), (.im (.v .nilIface))]), [], 0⟩, ((p0.map (eI .u8)).length : Int) = (p0.length : Int), (decide (v1.2.1 < (p0.length : Int))) = true, Ct.Ok PX 61 ⟨[(.im (eI .i64 v1.2.1)), (.im (.ifc 40 (eI .i64 8)))], [], 0, (.im (.v .nilIface)), [], 0⟩])
            (by kernel_rfl) ⟨(len_m (eI .u8) _), (df h1), (len_m (eI .u8) _), (by have q := (f60_ok k (SReader.mk p0) 0 (p0.length : Int) 0 v1 h2); rw [h3] at q; exact q), (len_m (eI .u8) _), (dt h4), (by have q := (f61_ok k v1.2.1 (Er.code 8) v2 h5); rw [h6] at q; exact q), trivial⟩ (fun fn hfn => ⟨rfl, rfl, rfl⟩)
        · rw [h6] at h; dsimp only [Er.on] at h
          replace h := Option.some.inj h; subst h
          exact Ct.ofWalk hT hm F24 (by kernel_rfl) (n := 1000) (ds := [.r [], .r [(1, ⟨(.h (.int (p0.length : Int))), [], []⟩)], .b false, .r [(3, ⟨(.h (.int (p0.length : Int))), [], []⟩), (4, ⟨(.c false [] ⟨[], [], [], 0, (.tup [(.im (.st [(1, (eI .i64 v1.1.Class)), (1, (eI .i64 v1.1.Tag)), (1, (eB v1.1.Made)), (1, (.sl 1 (v1.1.Body.map (eI .u8)))), (1, (.sl 5 (v1.1.Kids.map eSTlv)))])), (.im (eI .i64 v1.2.1)), (.im (.v .nilIface))]), [], 0, [], 1⟩), [], []⟩)], .r [], .bc false, .r [(2, ⟨(.h (.int (p0.length : Int))), [], []⟩)], .b true, .r [(3, ⟨(.c false [] ⟨[], [], [], 0, (.im (.ifc 40 (eI .i64 v3))), [], 0, [], 2⟩), [], []⟩)], .k ⟨[], [], [], [], [], 0, [(0, (.s [(.s [.k, .k, .k, (.n 1), (.n 5)])]))], []⟩])
            (r := (.fin (.tup [(.im (.st [(1, (eI .i64 0)), (1, (eI .i64 0)), (1, (eB false)), (1, (.sl 1 [])), (1, (.sl 5 []))])), (.im (.ifc 40 (eI .i64 v3)))]) [] 0)) (obs := [((p0.map (eI .u8)).length : Int) = (p0.length : Int), (decide ((p0.length : Int) > 1048576)) = false, ((p0.map (eI .u8)).length : Int) = (p0.length : Int), Ct.Ok PX 60 ⟨[(.im (.st [(1, (.sl 1 (p0.map (eI .u8))))])), (.im (eI .i64 0)), (.im (eI .i64 (p0.length : Int))), (.im (eI .i64 0))], [], 0, (.tup [(.im (.st [(1, (eI .i64 v1.1.Class)), (1, (eI .i64 v1.1.Tag)), (1, (eB v1.1.Made)), (1, (.sl 1 (v1.1.Body.map (eI .u8)))), (1, (.sl 5 (v1.1.Kids.map eSTlv)))])), (.im (eI .i64 v1.2.1)), (.im (.v .nilIface))]), [], 0⟩, ((p0.map (eI .u8)).length : Int) = (p0.length : Int), (decide (v1.2.1 < (p0.length : Int))) = true, Ct.Ok PX 61 ⟨[(.im (eI .i64 v1.2.1)), (.im (.ifc 40 (eI .i64 8)))], [], 0, (.im (.ifc 40 (eI .i64 v3))), [], 0⟩])
            (by kernel_rfl) ⟨(len_m (eI .u8) _), (df h1), (len_m (eI .u8) _), (by have q := (f60_ok k (SReader.mk p0) 0 (p0.length : Int) 0 v1 h2); rw [h3] at q; exact q), (len_m (eI .u8) _), (dt h4), (by have q := (f61_ok k v1.2.1 (Er.code 8) v2 h5); rw [h6] at q; exact q), trivial⟩ (fun fn hfn => ⟨rfl, rfl, rfl⟩)
        · rw [h6] at h; dsimp only [Er.on] at h
          replace h := Option.some.inj h; subst h
          exact Ct.ofWalk hT hm F24 (by kernel_rfl) (n := 1000) (ds := [.r [], .r [(1, ⟨(.h (.int (p0.length : Int))), [], []⟩)], .b false, .r [(3, ⟨(.h (.int (p0.length : Int))), [], []⟩), (4, ⟨(.c false [] ⟨[], [], [], 0, (.tup [(.im (.st [(1, (eI .i64 v1.1.Class)), (1, (eI .i64 v1.1.Tag)), (1, (eB v1.1.Made)), (1, (.sl 1 (v1.1.Body.map (eI .u8)))), (1, (.sl 5 (v1.1.Kids.map eSTlv)))])), (.im (eI .i64 v1.2.1)), (.im (.v .nilIface))]), [], 0, [], 1⟩), [], []⟩)], .r [], .bc false, .r [(2, ⟨(.h (.int (p0.length : Int))), [], []⟩)], .b true, .r [(3, ⟨(.c false [] ⟨[], [], [], 0, (.im (.ifc 77 (.pim 2 (.st [(1, (eI .i64 v3)), (1, (.ifc 40 (eI .i64 v4)))])))), [], 0, [], 2⟩), [], []⟩)], .k ⟨[], [], [], [], [], 0, [(0, (.s [(.s [.k, .k, .k, (.n 1), (.n 5)])]))], []⟩])
            (r := (.fin (.tup [(.im (.st [(1, (eI .i64 0)), (1, (eI .i64 0)), (1, (eB false)), (1, (.sl 1 [])), (1, (.sl 5 []))])), (.im (.ifc 77 (.pim 2 (.st [(1, (eI .i64 v3)), (1, (.ifc 40 (eI .i64 v4)))]))))]) [] 0)) (obs := [((p0.map (eI .u8)).length : Int) = (p0.length : Int), (decide ((p0.length : Int) > 1048576)) = false, ((p0.map (eI .u8)).length : Int) = (p0.length : Int), Ct.Ok PX 60 ⟨[(.im (.st [(1, (.sl 1 (p0.map (eI .u8))))])), (.im (eI .i64 0)), (.im (eI .i64 (p0.length : Int))), (.im (eI .i64 0))], [], 0, (.tup [(.im (.st [(1, (eI .i64 v1.1.Class)), (1, (eI .i64 v1.1.Tag)), (1, (eB v1.1.Made)), (1, (.sl 1 (v1.1.Body.map (eI .u8)))), (1, (.sl 5 (v1.1.Kids.map eSTlv)))])), (.im (eI .i64 v1.2.1)), (.im (.v .nilIface))]), [], 0⟩, ((p0.map (eI .u8)).length : Int) = (p0.length : Int), (decide (v1.2.1 < (p0.length : Int))) = true, Ct.Ok PX 61 ⟨[(.im (eI .i64 v1.2.1)), (.im (.ifc 40 (eI .i64 8)))], [], 0, (.im (.ifc 77 (.pim 2 (.st [(1, (eI .i64 v3)), (1, (.ifc 40 (eI .i64 v4)))])))), [], 0⟩])
            (by kernel_rfl) ⟨(len_m (eI .u8) _), (df h1), (len_m (eI .u8) _), (by have q := (f60_ok k (SReader.mk p0) 0 (p0.length : Int) 0 v1 h2); rw [h3] at q; exact q), (len_m (eI .u8) _), (dt h4), (by have q := (f61_ok k v1.2.1 (Er.code 8) v2 h5); rw [h6] at q; exact q), trivial⟩ (fun fn hfn => ⟨rfl, rfl, rfl⟩)
      · rw [if_neg h4] at h
        replace h := Option.some.inj h; subst h
        exact Ct.ofWalk hT hm F24 (by kernel_rfl) (n := 1000) (ds := [.r [], .r [(1, ⟨(.h (.int (p0.length : Int))), [], []⟩)], .b false, .r [(3, ⟨(.h (.int (p0.length : Int))), [], []⟩), (4, ⟨(.c false [] ⟨[], [], [], 0, (.tup [(.im (.st [(1, (eI .i64 v1.1.Class)), (1, (eI .i64 v1.1.Tag)), (1, (eB v1.1.Made)), (1, (.sl 1 (v1.1.Body.map (eI .u8)))), (1, (.sl 5 (v1.1.Kids.map eSTlv)))])), (.im (eI .i64 v1.2.1)), (.im (.v .nilIface))]), [], 0, [], 1⟩), [], []⟩)], .r [], .bc false, .r [(2, ⟨(.h (.int (p0.length : Int))), [], []⟩)], .b false, .r [], .k ⟨[], [], [], [], [], 0, [], []⟩])
          (r := (.fin (.tup [(.im (.st [(1, (eI .i64 v1.1.Class)), (1, (eI .i64 v1.1.Tag)), (1, (eB v1.1.Made)), (1, (.sl 1 (v1.1.Body.map (eI .u8)))), (1, (.sl 5 (v1.1.Kids.map eSTlv)))])), (.im (.v .nilIface))]) [] 0)) (obs := [((p0.map (eI .u8)).length : Int) = (p0.length : Int), (decide ((p0.length : Int) > 1048576)) = false, ((p0.map (eI .u8)).length : Int) = (p0.length : Int), Ct.Ok PX 60 ⟨[(.im (.st [(1, (.sl 1 (p0.map (eI .u8))))])), (.im (eI .i64 0)), (.im (eI .i64 (p0.length : Int))), (.im (eI .i64 0))], [], 0, (.tup [(.im (.st [(1, (eI .i64 v1.1.Class)), (1, (eI .i64 v1.1.Tag)), (1, (eB v1.1.Made)), (1, (.sl 1 (v1.1.Body.map (eI .u8)))), (1, (.sl 5 (v1.1.Kids.map eSTlv)))])), (.im (eI .i64 v1.2.1)), (.im (.v .nilIface))]), [], 0⟩, ((p0.map (eI .u8)).length : Int) = (p0.length : Int), (decide (v1.2.1 < (p0.length : Int))) = false])
          (by kernel_rfl) ⟨(len_m (eI .u8) _), (df h1), (len_m (eI .u8) _), (by have q := (f60_ok k (SReader.mk p0) 0 (p0.length : Int) 0 v1 h2); rw [h3] at q; exact q), (len_m (eI .u8) _), (df h4), trivial⟩ (fun fn hfn => ⟨rfl, rfl, rfl⟩)
    · rw [h3] at h; dsimp only [Er.on] at h
      replace h := Option.some.inj h; subst h
      exact Ct.ofWalk hT hm F24 (by kernel_rfl) (n := 1000) (ds := [.r [], .r [(1, ⟨(.h (.int (p0.length : Int))), [], []⟩)], .b false, .r [(3, ⟨(.h (.int (p0.length : Int))), [], []⟩), (4, ⟨(.c false [] ⟨[], [], [], 0, (.tup [(.im (.st [(1, (eI .i64 v1.1.Class)), (1, (eI .i64 v1.1.Tag)), (1, (eB v1.1.Made)), (1, (.sl 1 (v1.1.Body.map (eI .u8)))), (1, (.sl 5 (v1.1.Kids.map eSTlv)))])), (.im (eI .i64 v1.2.1)), (.im (.ifc 40 (eI .i64 v2)))]), [], 0, [], 1⟩), [], []⟩)], .r [], .bc true, .r [], .k ⟨[], [], [], [], [], 0, [(0, (.s [(.s [.k, .k, .k, (.n 1), (.n 5)])]))], []⟩])
        (r := (.fin (.tup [(.im (.st [(1, (eI .i64 0)), (1, (eI .i64 0)), (1, (eB false)), (1, (.sl 1 [])), (1, (.sl 5 []))])), (.im (.ifc 40 (eI .i64 v2)))]) [] 0)) (obs := [((p0.map (eI .u8)).length : Int) = (p0.length : Int), (decide ((p0.length : Int) > 1048576)) = false, ((p0.map (eI .u8)).length : Int) = (p0.length : Int), Ct.Ok PX 60 ⟨[(.im (.st [(1, (.sl 1 (p0.map (eI .u8))))])), (.im (eI .i64 0)), (.im (eI .i64 (p0.length : Int))), (.im (eI .i64 0))], [], 0, (.tup [(.im (.st [(1, (eI .i64 v1.1.Class)), (1, (eI .i64 v1.1.Tag)), (1, (eB v1.1.Made)), (1, (.sl 1 (v1.1.Body.map (eI .u8)))), (1, (.sl 5 (v1.1.Kids.map eSTlv)))])), (.im (eI .i64 v1.2.1)), (.im (.ifc 40 (eI .i64 v2)))]), [], 0⟩])
        (by kernel_rfl) ⟨(len_m (eI .u8) _), (df h1), (len_m (eI .u8) _), (by have q := (f60_ok k (SReader.mk p0) 0 (p0.length : Int) 0 v1 h2); rw [h3] at q; exact q), trivial⟩ (fun fn hfn => ⟨rfl, rfl, rfl⟩)
    · rw [h3] at h; dsimp only [Er.on] at h
      replace h := Option.some.inj h; subst h
      exact Ct.ofWalk hT hm F24 (by kernel_rfl) (n := 1000) (ds := [.r [], .r [(1, ⟨(.h (.int (p0.length : Int))), [], []⟩)], .b false, .r [(3, ⟨(.h (.int (p0.length : Int))), [], []⟩), (4, ⟨(.c false [] ⟨[], [], [], 0, (.tup [(.im (.st [(1, (eI .i64 v1.1.Class)), (1, (eI .i64 v1.1.Tag)), (1, (eB v1.1.Made)), (1, (.sl 1 (v1.1.Body.map (eI .u8)))), (1, (.sl 5 (v1.1.Kids.map eSTlv)))])), (.im (eI .i64 v1.2.1)), (.im (.ifc 77 (.pim 2 (.st [(1, (eI .i64 v2)), (1, (.ifc 40 (eI .i64 v3)))]))))]), [], 0, [], 1⟩), [], []⟩)], .r [], .bc true, .r [], .k ⟨[], [], [], [], [], 0, [(0, (.s [(.s [.k, .k, .k, (.n 1), (.n 5)])]))], []⟩])
        (r := (.fin (.tup [(.im (.st [(1, (eI .i64 0)), (1, (eI .i64 0)), (1, (eB false)), (1, (.sl 1 [])), (1, (.sl 5 []))])), (.im (.ifc 77 (.pim 2 (.st [(1, (eI .i64 v2)), (1, (.ifc 40 (eI .i64 v3)))]))))]) [] 0)) (obs := [((p0.map (eI .u8)).length : Int) = (p0.length : Int), (decide ((p0.length : Int) > 1048576)) = false, ((p0.map (eI .u8)).length : Int) = (p0.length : Int), Ct.Ok PX 60 ⟨[(.im (.st [(1, (.sl 1 (p0.map (eI .u8))))])), (.im (eI .i64 0)), (.im (eI .i64 (p0.length : Int))), (.im (eI .i64 0))], [], 0, (.tup [(.im (.st [(1, (eI .i64 v1.1.Class)), (1, (eI .i64 v1.1.Tag)), (1, (eB v1.1.Made)), (1, (.sl 1 (v1.1.Body.map (eI .u8)))), (1, (.sl 5 (v1.1.Kids.map eSTlv)))])), (.im (eI .i64 v1.2.1)), (.im (.ifc 77 (.pim 2 (.st [(1, (eI .i64 v2)), (1, (.ifc 40 (eI .i64 v3)))]))))]), [], 0⟩])
        (by kernel_rfl) ⟨(len_m (eI .u8) _), (df h1), (len_m (eI .u8) _), (by have q := (f60_ok k (SReader.mk p0) 0 (p0.length : Int) 0 v1 h2); rw [h3] at q; exact q), trivial⟩ (fun fn hfn => ⟨rfl, rfl, rfl⟩)
end Go.Proofs.Tryd.E
end

section
namespace Go.Proofs.Tryd.E
open Go Go.Eng
set_option maxRecDepth 100000
set_option linter.unusedVariables false
def f113 (k : Nat) (p0 : STlv) (p1 : Int) : Option (Bool) :=
  if p0.Class = 0 then (
   if p0.Tag = 16 then (
    if p0.Made = true then (
     if p1 < 0 then (
      some true)
     else (
      some ((p0.Kids.length : Int) == p1)))
    else (
     some false))
   else (
    some false))
  else (
   some false)

theorem f113_ok (k : Nat) : ∀ (p0 : STlv) (p1 : Int) (r : Bool), f113 k p0 p1 = some r → Ct.Ok PX 113 ⟨[(.im (.st [(1, (eI .i64 p0.Class)), (1, (eI .i64 p0.Tag)), (1, (eB p0.Made)), (1, (.sl 1 (p0.Body.map (eI .u8)))), (1, (.sl 5 (p0.Kids.map eSTlv)))])), (.im (eI .i64 p1))], [], 0, (.im (eB r)), [], 0⟩ := by
  intro p0 p1 r h
  unfold f113 at h
  by_cases h1 : p0.Class = 0
  · rw [if_pos h1] at h
    by_cases h2 : p0.Tag = 16
    · rw [if_pos h2] at h
      by_cases h3 : p0.Made = true
      · rw [if_pos h3] at h
        by_cases h4 : p1 < 0
        · rw [if_pos h4] at h
          replace h := Option.some.inj h; subst h
          exact Ct.ofWalk hT hm F113 (by kernel_rfl) (n := 1000) (ds := [.r [], .r [(4, ⟨(.h (.gt .no)), [], []⟩), (5, ⟨(.h (.gt .no)), [], []⟩), (6, ⟨(.h (.gt .no)), [], []⟩), (7, ⟨(.h (.gt .no)), [], []⟩), (9, ⟨(.h (.gt .no)), [], []⟩), (10, ⟨(.h (.gt .no)), [], []⟩), (11, ⟨(.h (.gt .no)), [], []⟩), (13, ⟨(.h (.gt .no)), [], []⟩), (14, ⟨(.h (.gt .no)), [], []⟩), (15, ⟨(.h (.gt .no)), [], []⟩), (16, ⟨(.h .gf), [], []⟩), (17, ⟨(.h .gf), [], []⟩), (18, ⟨(.h .gf), [], []⟩), (19, ⟨(.h .gf), [], []⟩), (20, ⟨(.h .gf), [], []⟩), (21, ⟨(.h (.gt (.gt .no))), [], []⟩), (22, ⟨(.h (.gt .no)), [], []⟩)], .k ⟨[], [], [], [], [], 0, [], []⟩])
            (r := (.fin (.im (eB true)) [] 0)) (obs := [(p0.Class == 0) = true, (p0.Class == 0) = true, (p0.Class == 0) = true, (p0.Class == 0) = true, (p0.Tag == 16) = true, (p0.Tag == 16) = true, (p0.Tag == 16) = true, p0.Made = true, p0.Made = true, p0.Made = true, (decide (p1 < 0)) = !false, (decide (p1 < 0)) = !false, (decide (p1 < 0)) = !false, (decide (p1 < 0)) = !false, (decide (p1 < 0)) = !false, p0.Made = true, (decide (p1 < 0)) = true, p0.Made = true])
            (by kernel_rfl) ⟨(bt h1), (bt h1), (bt h1), (bt h1), (bt h2), (bt h2), (bt h2), h3, h3, h3, (dt h4), (dt h4), (dt h4), (dt h4), (dt h4), h3, (dt h4), h3, trivial⟩ (fun fn hfn => ⟨rfl, rfl, rfl⟩)
        · rw [if_neg h4] at h
          replace h := Option.some.inj h; subst h
          exact Ct.ofWalk hT hm F113 (by kernel_rfl) (n := 1000) (ds := [.r [], .r [(4, ⟨(.h (.gt .no)), [], []⟩), (5, ⟨(.h (.gt .no)), [], []⟩), (6, ⟨(.h (.gt .no)), [], []⟩), (7, ⟨(.h (.gt .no)), [], []⟩), (9, ⟨(.h (.gt .no)), [], []⟩), (10, ⟨(.h (.gt .no)), [], []⟩), (11, ⟨(.h (.gt .no)), [], []⟩), (13, ⟨(.h (.gt .no)), [], []⟩), (14, ⟨(.h (.gt .no)), [], []⟩), (15, ⟨(.h (.gt .no)), [], []⟩), (16, ⟨(.h (.gt .no)), [], []⟩), (17, ⟨(.h (.gt .no)), [], []⟩), (18, ⟨(.h (.gt (.int (p0.Kids.length : Int)))), [], []⟩), (19, ⟨(.h (.gt .no)), [], []⟩), (20, ⟨(.h (.gt .no)), [], []⟩), (21, ⟨(.h (.gt .gf)), [], []⟩), (22, ⟨(.h (.gt .no)), [], []⟩)], .k ⟨[], [], [], [], [], 0, [], []⟩])
            (r := (.fin (.im (eB ((p0.Kids.length : Int) == p1))) [] 0)) (obs := [(p0.Class == 0) = true, (p0.Class == 0) = true, (p0.Class == 0) = true, (p0.Class == 0) = true, (p0.Tag == 16) = true, (p0.Tag == 16) = true, (p0.Tag == 16) = true, p0.Made = true, p0.Made = true, p0.Made = true, (decide (p1 < 0)) = false, (decide (p1 < 0)) = false, (decide (p1 < 0)) = false, ((p0.Kids.map eSTlv).length : Int) = (p0.Kids.length : Int), (decide (p1 < 0)) = false, (decide (p1 < 0)) = false, p0.Made = true, (decide (p1 < 0)) = false, p0.Made = true])
            (by kernel_rfl) ⟨(bt h1), (bt h1), (bt h1), (bt h1), (bt h2), (bt h2), (bt h2), h3, h3, h3, (df h4), (df h4), (df h4), (len_m eSTlv _), (df h4), (df h4), h3, (df h4), h3, trivial⟩ (fun fn hfn => ⟨rfl, rfl, rfl⟩)
      · rw [if_neg h3] at h
        replace h := Option.some.inj h; subst h
        exact Ct.ofWalk hT hm F113 (by kernel_rfl) (n := 1000) (ds := [.r [], .r [(4, ⟨(.h (.gt .no)), [], []⟩), (5, ⟨(.h (.gt .no)), [], []⟩), (6, ⟨(.h (.gt .no)), [], []⟩), (7, ⟨(.h (.gt .no)), [], []⟩), (9, ⟨(.h (.gt .no)), [], []⟩), (10, ⟨(.h (.gt .no)), [], []⟩), (11, ⟨(.h (.gt .no)), [], []⟩), (13, ⟨(.h .gf), [], []⟩), (14, ⟨(.h .gf), [], []⟩), (15, ⟨(.h .gf), [], []⟩), (21, ⟨(.h .gf), [], []⟩), (22, ⟨(.h .gf), [], []⟩)], .k ⟨[], [], [], [], [], 0, [], []⟩])
          (r := (.fin (.im (eB false)) [] 0)) (obs := [(p0.Class == 0) = true, (p0.Class == 0) = true, (p0.Class == 0) = true, (p0.Class == 0) = true, (p0.Tag == 16) = true, (p0.Tag == 16) = true, (p0.Tag == 16) = true, p0.Made = !true, p0.Made = !true, p0.Made = !true, p0.Made = !true, p0.Made = false])
          (by kernel_rfl) ⟨(bt h1), (bt h1), (bt h1), (bt h1), (bt h2), (bt h2), (bt h2), (vf h3), (vf h3), (vf h3), (vf h3), (vf h3), trivial⟩ (fun fn hfn => ⟨rfl, rfl, rfl⟩)
    · rw [if_neg h2] at h
      replace h := Option.some.inj h; subst h
      exact Ct.ofWalk hT hm F113 (by kernel_rfl) (n := 1000) (ds := [.r [], .r [(4, ⟨(.h (.gt .no)), [], []⟩), (5, ⟨(.h (.gt .no)), [], []⟩), (6, ⟨(.h (.gt .no)), [], []⟩), (7, ⟨(.h (.gt .no)), [], []⟩), (9, ⟨(.h .gf), [], []⟩), (10, ⟨(.h .gf), [], []⟩), (11, ⟨(.h .gf), [], []⟩)], .k ⟨[], [], [], [], [], 0, [], []⟩])
        (r := (.fin (.im (eB false)) [] 0)) (obs := [(p0.Class == 0) = true, (p0.Class == 0) = true, (p0.Class == 0) = true, (p0.Class == 0) = true, (p0.Tag == 16) = !true, (p0.Tag == 16) = !true, (p0.Tag == 16) = false])
        (by kernel_rfl) ⟨(bt h1), (bt h1), (bt h1), (bt h1), (bf h2), (bf h2), (bf h2), trivial⟩ (fun fn hfn => ⟨rfl, rfl, rfl⟩)
  · rw [if_neg h1] at h
    replace h := Option.some.inj h; subst h
    exact Ct.ofWalk hT hm F113 (by kernel_rfl) (n := 1000) (ds := [.r [], .r [(4, ⟨(.h .gf), [], []⟩), (5, ⟨(.h .gf), [], []⟩), (6, ⟨(.h .gf), [], []⟩), (7, ⟨(.h .gf), [], []⟩)], .k ⟨[], [], [], [], [], 0, [], []⟩])
      (r := (.fin (.im (eB false)) [] 0)) (obs := [(p0.Class == 0) = !true, (p0.Class == 0) = !true, (p0.Class == 0) = !true, (p0.Class == 0) = false])
      (by kernel_rfl) ⟨(bf h1), (bf h1), (bf h1), (bf h1), trivial⟩ (fun fn hfn => ⟨rfl, rfl, rfl⟩)

def f112 (k : Nat) (p0 : STlv) (p1 : (List STlv)) : Option (STlv × (List Int) × SSig × Bool) :=
  (f113 k p0 (IntKind.wrap .i64 ((p1.length : Int) + 2))).bind fun v1 =>
  if v1 = true then (
   (sl p0.Kids 1 (IntKind.wrap .i64 ((IntKind.wrap .i64 ((p1.length : Int) + 2)) - 1))).bind fun v2 =>
   none)
  else (
   some ((STlv.mk 0 0 false [] []), [], (SSig.mk (⟨[0, 0, 0, 0, 0, 0], rfl⟩ : Arr 6) (⟨[0, 0, 0, 0, 0, 0], rfl⟩ : Arr 6)), false))

theorem f112_ok (k : Nat) : ∀ (p0 : STlv) (p1 : (List STlv)) (r : STlv × (List Int) × SSig × Bool), f112 k p0 p1 = some r → Ct.Ok PX 112 ⟨[(.im (.st [(1, (eI .i64 p0.Class)), (1, (eI .i64 p0.Tag)), (1, (eB p0.Made)), (1, (.sl 1 (p0.Body.map (eI .u8)))), (1, (.sl 5 (p0.Kids.map eSTlv)))])), (.im (.sl 5 (p1.map eSTlv)))], [], 0, (.tup [(.im (.st [(1, (eI .i64 r.1.Class)), (1, (eI .i64 r.1.Tag)), (1, (eB r.1.Made)), (1, (.sl 1 (r.1.Body.map (eI .u8)))), (1, (.sl 5 (r.1.Kids.map eSTlv)))])), (.im (.sl 1 (r.2.1.map (eI .u8)))), (.im (.st [(6, (.arr 1 (r.2.2.1.R.l.map (eI .u64)))), (6, (.arr 1 (r.2.2.1.S.l.map (eI .u64))))])), (.im (eB r.2.2.2))]), [], 0⟩ := by
  intro p0 p1 r h
  unfold f112 at h
  obtain ⟨v1, h1, h⟩ := bnd h
  by_cases h2 : v1 = true
  · rw [if_pos h2] at h
    obtain ⟨v2, h3, h⟩ := bnd h
    cases h
  · rw [if_neg h2] at h
    replace h := Option.some.inj h; subst h
    exact Ct.ofWalk hT hm F112 (by kernel_rfl) (n := 1000) (ds := [.r [], .r [(1, ⟨(.h (.int (p1.length : Int))), [], []⟩)], .r [(2, ⟨(.c false [] ⟨[], [], [], 0, (.im (eB v1)), [], 0, [], 3⟩), [], []⟩), (5, ⟨(.h .gf), [], []⟩), (6, ⟨(.h .gf), [], []⟩), (7, ⟨(.h .gf), [], []⟩), (8, ⟨(.h .gf), [], []⟩), (9, ⟨(.h .gf), [], []⟩), (10, ⟨(.h .gf), [], []⟩), (11, ⟨(.h .gf), [], []⟩), (12, ⟨(.h .gf), [], []⟩), (13, ⟨(.h (.gt .no)), [], []⟩)], .bc true, .r [], .k ⟨[], [], [], [], [], 0, [(0, (.s [(.s [.k, .k, .k, (.n 1), (.n 5)]), (.n 1)]))], []⟩])
      (r := (.fin (.tup [(.im (.st [(1, (eI .i64 0)), (1, (eI .i64 0)), (1, (eB false)), (1, (.sl 1 [])), (1, (.sl 5 []))])), (.im (.sl 1 [])), (.im (.st [(6, (.arr 1 [(eI .u64 0), (eI .u64 0), (eI .u64 0), (eI .u64 0), (eI .u64 0), (eI .u64 0)])), (6, (.arr 1 [(eI .u64 0), (eI .u64 0), (eI .u64 0), (eI .u64 0), (eI .u64 0), (eI .u64 0)]))])), (.im (eB false))]) [] 0)) (obs := [((p1.map eSTlv).length : Int) = (p1.length : Int), Ct.Ok PX 113 ⟨[(.im (.st [(1, (eI .i64 p0.Class)), (1, (eI .i64 p0.Tag)), (1, (eB p0.Made)), (1, (.sl 1 (p0.Body.map (eI .u8)))), (1, (.sl 5 (p0.Kids.map eSTlv)))])), (.im (eI .i64 (IntKind.wrap .i64 ((p1.length : Int) + 2))))], [], 0, (.im (eB v1)), [], 0⟩, (!v1) = !false, (!v1) = !false, (!v1) = !false, (!v1) = !false, (!v1) = !false, (!v1) = !false, (!v1) = !false, (!v1) = !false, (!v1) = true])
      (by kernel_rfl) ⟨(len_m eSTlv _), (f113_ok k p0 (IntKind.wrap .i64 ((p1.length : Int) + 2)) v1 h1), (not_t (vf h2)), (not_t (vf h2)), (not_t (vf h2)), (not_t (vf h2)), (not_t (vf h2)), (not_t (vf h2)), (not_t (vf h2)), (not_t (vf h2)), (not_t (vf h2)), trivial⟩ (fun fn hfn => ⟨rfl, rfl, rfl⟩)
end Go.Proofs.Tryd.E
end

section
namespace Go.Proofs.Tryd.E
open Go Go.Eng
set_option maxRecDepth 100000
set_option linter.unusedVariables false
def f72 (k : Nat) (p0 : STlv) : Option (SCrl × Bool) :=
  (f37 k).bind fun v1 =>
  (f112 k p0 [v1]).bind fun v2 =>
  if v2.2.2.2 = true then (
   (f113 k v2.1 5).bind fun v3 =>
   if v3 = true then (
    (rd v2.1.Kids 2).bind fun v4 =>
    none)
   else (
    (f113 k v2.1 6).bind fun v4 =>
    if v4 = true then (
     (rd v2.1.Kids 2).bind fun v5 =>
     none)
    else (
     some ((SCrl.mk [] 0 0 [] [] (SSig.mk (⟨[0, 0, 0, 0, 0, 0], rfl⟩ : Arr 6) (⟨[0, 0, 0, 0, 0, 0], rfl⟩ : Arr 6))), false))))
  else (
   some ((SCrl.mk [] 0 0 [] [] (SSig.mk (⟨[0, 0, 0, 0, 0, 0], rfl⟩ : Arr 6) (⟨[0, 0, 0, 0, 0, 0], rfl⟩ : Arr 6))), false))

theorem f72_ok (k : Nat) : ∀ (p0 : STlv) (r : SCrl × Bool), f72 k p0 = some r → Ct.Ok PX 72 ⟨[(.im (.st [(1, (eI .i64 p0.Class)), (1, (eI .i64 p0.Tag)), (1, (eB p0.Made)), (1, (.sl 1 (p0.Body.map (eI .u8)))), (1, (.sl 5 (p0.Kids.map eSTlv)))]))], [], 0, (.tup [(.im (.st [(1, (.sl 2 (r.1.Issuer.map eSPart))), (1, (eI .i64 r.1.This)), (1, (eI .i64 r.1.Next)), (1, (.sl 2 (r.1.Gone.map eSGone))), (1, (.sl 1 (r.1.Body.map (eI .u8)))), (12, (.st [(6, (.arr 1 (r.1.Sig.R.l.map (eI .u64)))), (6, (.arr 1 (r.1.Sig.S.l.map (eI .u64))))]))])), (.im (eB r.2))]), [], 0⟩ := by
  intro p0 r h
  unfold f72 at h
  obtain ⟨v1, h1, h⟩ := bnd h
  obtain ⟨v2, h2, h⟩ := bnd h
  by_cases h3 : v2.2.2.2 = true
  · rw [if_pos h3] at h
    obtain ⟨v3, h4, h⟩ := bnd h
    by_cases h5 : v3 = true
    · rw [if_pos h5] at h
      obtain ⟨v4, h6, h⟩ := bnd h
      cases h
    · rw [if_neg h5] at h
      obtain ⟨v4, h6, h⟩ := bnd h
      by_cases h7 : v4 = true
      · rw [if_pos h7] at h
        obtain ⟨v5, h8, h⟩ := bnd h
        cases h
      · rw [if_neg h7] at h
        replace h := Option.some.inj h; subst h
        exact Ct.ofWalk hT hm F72 (by kernel_rfl) (n := 1000) (ds := [.r [], .r [(1, ⟨(.c false [] ⟨[], [], [], 0, (.im (.st [(1, (eI .i64 v1.Class)), (1, (eI .i64 v1.Tag)), (1, (eB v1.Made)), (1, (.sl 1 (v1.Body.map (eI .u8)))), (1, (.sl 5 (v1.Kids.map eSTlv)))])), [], 0, [], 2⟩), [], []⟩), (3, ⟨(.c false [2] ⟨[], [.k, (.e (.sl 5 ([v1].map eSTlv)))], [], 0, (.tup [(.im (.st [(1, (eI .i64 v2.1.Class)), (1, (eI .i64 v2.1.Tag)), (1, (eB v2.1.Made)), (1, (.sl 1 (v2.1.Body.map (eI .u8)))), (1, (.sl 5 (v2.1.Kids.map eSTlv)))])), (.im (.sl 1 (v2.2.1.map (eI .u8)))), (.im (.st [(6, (.arr 1 (v2.2.2.1.R.l.map (eI .u64)))), (6, (.arr 1 (v2.2.2.1.S.l.map (eI .u64))))])), (.im (eB v2.2.2.2))]), [], 0, [], 3⟩), [], []⟩)], .r [(3, ⟨(.h (.gt .no)), [], []⟩), (4, ⟨(.c true [] ⟨[], [], [], 0, (.im (eB v3)), [], 0, [], 5⟩), [], []⟩), (5, ⟨(.h (.gt .no)), [], []⟩), (6, ⟨(.h (.gt .no)), [], []⟩), (7, ⟨(.h (.gt .no)), [], []⟩), (8, ⟨(.c true [] ⟨[], [], [], 0, (.im (eB v4)), [], 0, [], 5⟩), [], []⟩), (9, ⟨(.h (.gt .no)), [], []⟩), (10, ⟨(.h (.gt (.gt .no))), [], []⟩), (11, ⟨(.h .gf), [], []⟩)], .b true, .r [], .k ⟨[], [], [], [], [], 0, [(0, (.s [(.s [(.n 2), .k, .k, (.n 2), (.n 1)])]))], []⟩])
          (r := (.fin (.tup [(.im (.st [(1, (.sl 2 [])), (1, (eI .i64 0)), (1, (eI .i64 0)), (1, (.sl 2 [])), (1, (.sl 1 [])), (12, (.st [(6, (.arr 1 [(eI .u64 0), (eI .u64 0), (eI .u64 0), (eI .u64 0), (eI .u64 0), (eI .u64 0)])), (6, (.arr 1 [(eI .u64 0), (eI .u64 0), (eI .u64 0), (eI .u64 0), (eI .u64 0), (eI .u64 0)]))]))])), (.im (eB false))]) [] 0)) (obs := [Ct.Ok PX 37 ⟨[], [], 0, (.im (.st [(1, (eI .i64 v1.Class)), (1, (eI .i64 v1.Tag)), (1, (eB v1.Made)), (1, (.sl 1 (v1.Body.map (eI .u8)))), (1, (.sl 5 (v1.Kids.map eSTlv)))])), [], 0⟩, Ct.Ok PX 112 ⟨[(.im (.st [(1, (eI .i64 p0.Class)), (1, (eI .i64 p0.Tag)), (1, (eB p0.Made)), (1, (.sl 1 (p0.Body.map (eI .u8)))), (1, (.sl 5 (p0.Kids.map eSTlv)))])), (.im (.sl 5 ([v1].map eSTlv)))], [], 0, (.tup [(.im (.st [(1, (eI .i64 v2.1.Class)), (1, (eI .i64 v2.1.Tag)), (1, (eB v2.1.Made)), (1, (.sl 1 (v2.1.Body.map (eI .u8)))), (1, (.sl 5 (v2.1.Kids.map eSTlv)))])), (.im (.sl 1 (v2.2.1.map (eI .u8)))), (.im (.st [(6, (.arr 1 (v2.2.2.1.R.l.map (eI .u64)))), (6, (.arr 1 (v2.2.2.1.S.l.map (eI .u64))))])), (.im (eB v2.2.2.2))]), [], 0⟩, .sl 5 [(.st [(1, (eI .i64 v1.Class)), (1, (eI .i64 v1.Tag)), (1, (eB v1.Made)), (1, (.sl 1 (v1.Body.map (eI .u8)))), (1, (.sl 5 (v1.Kids.map eSTlv)))])] = (.sl 5 ([v1].map eSTlv) : IV), (!v2.2.2.2) = false, (!v2.2.2.2) = false, Ct.Ok PX 113 ⟨[(.im (.st [(1, (eI .i64 v2.1.Class)), (1, (eI .i64 v2.1.Tag)), (1, (eB v2.1.Made)), (1, (.sl 1 (v2.1.Body.map (eI .u8)))), (1, (.sl 5 (v2.1.Kids.map eSTlv)))])), (.im (eI .i64 5))], [], 0, (.im (eB v3)), [], 0⟩, (!v2.2.2.2) = false, (!v2.2.2.2) = false, (!v3) = true, (!v3) = true, Ct.Ok PX 113 ⟨[(.im (.st [(1, (eI .i64 v2.1.Class)), (1, (eI .i64 v2.1.Tag)), (1, (eB v2.1.Made)), (1, (.sl 1 (v2.1.Body.map (eI .u8)))), (1, (.sl 5 (v2.1.Kids.map eSTlv)))])), (.im (eI .i64 6))], [], 0, (.im (eB v4)), [], 0⟩, (!v3) = true, (!v2.2.2.2) = false, (!v3) = true, (!v2.2.2.2) = false, (!v4) = true])
          (by kernel_rfl) ⟨(f37_ok k v1 h1), (f112_ok k p0 [v1] v2 h2), (congrArg (IV.sl 5) (show [(.st [(1, (eI .i64 v1.Class)), (1, (eI .i64 v1.Tag)), (1, (eB v1.Made)), (1, (.sl 1 (v1.Body.map (eI .u8)))), (1, (.sl 5 (v1.Kids.map eSTlv)))])] = [v1].map eSTlv from by simp only [List.map_cons, List.map_nil, eSTlv_eq, STlv.Class, STlv.Tag, STlv.Made, STlv.Body, STlv.Kids])), (not_f h3), (not_f h3), (f113_ok k v2.1 5 v3 h4), (not_f h3), (not_f h3), (not_t (vf h5)), (not_t (vf h5)), (f113_ok k v2.1 6 v4 h6), (not_t (vf h5)), (not_f h3), (not_t (vf h5)), (not_f h3), (not_t (vf h7)), trivial⟩ (fun fn hfn => ⟨rfl, rfl, rfl⟩)
  · rw [if_neg h3] at h
    replace h := Option.some.inj h; subst h
    exact Ct.ofWalk hT hm F72 (by kernel_rfl) (n := 1000) (ds := [.r [], .r [(1, ⟨(.c false [] ⟨[], [], [], 0, (.im (.st [(1, (eI .i64 v1.Class)), (1, (eI .i64 v1.Tag)), (1, (eB v1.Made)), (1, (.sl 1 (v1.Body.map (eI .u8)))), (1, (.sl 5 (v1.Kids.map eSTlv)))])), [], 0, [], 2⟩), [], []⟩), (3, ⟨(.c false [2] ⟨[], [.k, (.e (.sl 5 ([v1].map eSTlv)))], [], 0, (.tup [(.im (.st [(1, (eI .i64 v2.1.Class)), (1, (eI .i64 v2.1.Tag)), (1, (eB v2.1.Made)), (1, (.sl 1 (v2.1.Body.map (eI .u8)))), (1, (.sl 5 (v2.1.Kids.map eSTlv)))])), (.im (.sl 1 (v2.2.1.map (eI .u8)))), (.im (.st [(6, (.arr 1 (v2.2.2.1.R.l.map (eI .u64)))), (6, (.arr 1 (v2.2.2.1.S.l.map (eI .u64))))])), (.im (eB v2.2.2.2))]), [], 0, [], 3⟩), [], []⟩)], .r [(3, ⟨(.h .gf), [], []⟩), (4, ⟨(.h .gf), [], []⟩), (5, ⟨(.h .gf), [], []⟩), (6, ⟨(.h .gf), [], []⟩), (10, ⟨(.h .gf), [], []⟩), (11, ⟨(.h (.gt .no)), [], []⟩)], .bc true, .r [], .k ⟨[], [], [], [], [], 0, [(0, (.s [(.s [(.n 2), .k, .k, (.n 2), (.n 1)])]))], []⟩])
      (r := (.fin (.tup [(.im (.st [(1, (.sl 2 [])), (1, (eI .i64 0)), (1, (eI .i64 0)), (1, (.sl 2 [])), (1, (.sl 1 [])), (12, (.st [(6, (.arr 1 [(eI .u64 0), (eI .u64 0), (eI .u64 0), (eI .u64 0), (eI .u64 0), (eI .u64 0)])), (6, (.arr 1 [(eI .u64 0), (eI .u64 0), (eI .u64 0), (eI .u64 0), (eI .u64 0), (eI .u64 0)]))]))])), (.im (eB false))]) [] 0)) (obs := [Ct.Ok PX 37 ⟨[], [], 0, (.im (.st [(1, (eI .i64 v1.Class)), (1, (eI .i64 v1.Tag)), (1, (eB v1.Made)), (1, (.sl 1 (v1.Body.map (eI .u8)))), (1, (.sl 5 (v1.Kids.map eSTlv)))])), [], 0⟩, Ct.Ok PX 112 ⟨[(.im (.st [(1, (eI .i64 p0.Class)), (1, (eI .i64 p0.Tag)), (1, (eB p0.Made)), (1, (.sl 1 (p0.Body.map (eI .u8)))), (1, (.sl 5 (p0.Kids.map eSTlv)))])), (.im (.sl 5 ([v1].map eSTlv)))], [], 0, (.tup [(.im (.st [(1, (eI .i64 v2.1.Class)), (1, (eI .i64 v2.1.Tag)), (1, (eB v2.1.Made)), (1, (.sl 1 (v2.1.Body.map (eI .u8)))), (1, (.sl 5 (v2.1.Kids.map eSTlv)))])), (.im (.sl 1 (v2.2.1.map (eI .u8)))), (.im (.st [(6, (.arr 1 (v2.2.2.1.R.l.map (eI .u64)))), (6, (.arr 1 (v2.2.2.1.S.l.map (eI .u64))))])), (.im (eB v2.2.2.2))]), [], 0⟩, .sl 5 [(.st [(1, (eI .i64 v1.Class)), (1, (eI .i64 v1.Tag)), (1, (eB v1.Made)), (1, (.sl 1 (v1.Body.map (eI .u8)))), (1, (.sl 5 (v1.Kids.map eSTlv)))])] = (.sl 5 ([v1].map eSTlv) : IV), (!v2.2.2.2) = !false, (!v2.2.2.2) = !false, (!v2.2.2.2) = !false, (!v2.2.2.2) = !false, (!v2.2.2.2) = !false, (!v2.2.2.2) = true])
      (by kernel_rfl) ⟨(f37_ok k v1 h1), (f112_ok k p0 [v1] v2 h2), (congrArg (IV.sl 5) (show [(.st [(1, (eI .i64 v1.Class)), (1, (eI .i64 v1.Tag)), (1, (eB v1.Made)), (1, (.sl 1 (v1.Body.map (eI .u8)))), (1, (.sl 5 (v1.Kids.map eSTlv)))])] = [v1].map eSTlv from by simp only [List.map_cons, List.map_nil, eSTlv_eq, STlv.Class, STlv.Tag, STlv.Made, STlv.Body, STlv.Kids])), (not_t (vf h3)), (not_t (vf h3)), (not_t (vf h3)), (not_t (vf h3)), (not_t (vf h3)), (not_t (vf h3)), trivial⟩ (fun fn hfn => ⟨rfl, rfl, rfl⟩)
end Go.Proofs.Tryd.E
end

section
namespace Go.Proofs.Tryd.E
open Go Go.Eng
set_option maxRecDepth 100000
set_option linter.unusedVariables false
def f32 (k : Nat) (p0 : (List Int)) : Option (SCrl × Er) :=
  (f24 k p0).bind fun v1 =>
  Er.on v1.2 (
   (f72 k v1.1).bind fun v2 =>
   if v2.2 = true then (
    some (v2.1, Er.nil))
   else (
    some ((SCrl.mk [] 0 0 [] [] (SSig.mk (⟨[0, 0, 0, 0, 0, 0], rfl⟩ : Arr 6) (⟨[0, 0, 0, 0, 0, 0], rfl⟩ : Arr 6))), (Er.code 7))))
   (fun v2 =>
   some ((SCrl.mk [] 0 0 [] [] (SSig.mk (⟨[0, 0, 0, 0, 0, 0], rfl⟩ : Arr 6) (⟨[0, 0, 0, 0, 0, 0], rfl⟩ : Arr 6))), (Er.code v2)))
   (fun v2 v3 =>
   some ((SCrl.mk [] 0 0 [] [] (SSig.mk (⟨[0, 0, 0, 0, 0, 0], rfl⟩ : Arr 6) (⟨[0, 0, 0, 0, 0, 0], rfl⟩ : Arr 6))), (Er.spot v2 v3)))

theorem f32_ok (k : Nat) : ∀ (p0 : (List Int)) (r : SCrl × Er), f32 k p0 = some r → Ct.Ok PX 32 ⟨[(.im (.sl 1 (p0.map (eI .u8))))], [], 0, (.tup [(.im (.st [(1, (.sl 2 (r.1.Issuer.map eSPart))), (1, (eI .i64 r.1.This)), (1, (eI .i64 r.1.Next)), (1, (.sl 2 (r.1.Gone.map eSGone))), (1, (.sl 1 (r.1.Body.map (eI .u8)))), (12, (.st [(6, (.arr 1 (r.1.Sig.R.l.map (eI .u64)))), (6, (.arr 1 (r.1.Sig.S.l.map (eI .u64))))]))])), (.im (eEr r.2))]), [], 0⟩ := by
  intro p0 r h
  unfold f32 at h
  obtain ⟨v1, h1, h⟩ := bnd h
  rcases h2 : v1.2 with _ | v2 | ⟨v2, v3⟩
  · rw [h2] at h; dsimp only [Er.on] at h
    obtain ⟨v2, h3, h⟩ := bnd h
    by_cases h4 : v2.2 = true
    · rw [if_pos h4] at h
      replace h := Option.some.inj h; subst h
      exact Ct.ofWalk hT hm F32 (by kernel_rfl) (n := 1000) (ds := [.r [], .r [(1, ⟨(.c false [] ⟨[], [], [], 0, (.tup [(.im (.st [(1, (eI .i64 v1.1.Class)), (1, (eI .i64 v1.1.Tag)), (1, (eB v1.1.Made)), (1, (.sl 1 (v1.1.Body.map (eI .u8)))), (1, (.sl 5 (v1.1.Kids.map eSTlv)))])), (.im (.v .nilIface))]), [], 0, [], 1⟩), [], []⟩)], .r [], .bc false, .r [(1, ⟨(.c false [] ⟨[], [], [], 0, (.tup [(.im (.st [(1, (.sl 2 (v2.1.Issuer.map eSPart))), (1, (eI .i64 v2.1.This)), (1, (eI .i64 v2.1.Next)), (1, (.sl 2 (v2.1.Gone.map eSGone))), (1, (.sl 1 (v2.1.Body.map (eI .u8)))), (12, (.st [(6, (.arr 1 (v2.1.Sig.R.l.map (eI .u64)))), (6, (.arr 1 (v2.1.Sig.S.l.map (eI .u64))))]))])), (.im (eB v2.2))]), [], 0, [], 2⟩), [], []⟩)], .r [], .b false, .r [], .k ⟨[], [], [], [], [], 0, [], []⟩])
        (r := (.fin (.tup [(.im (.st [(1, (.sl 2 (v2.1.Issuer.map eSPart))), (1, (eI .i64 v2.1.This)), (1, (eI .i64 v2.1.Next)), (1, (.sl 2 (v2.1.Gone.map eSGone))), (1, (.sl 1 (v2.1.Body.map (eI .u8)))), (12, (.st [(6, (.arr 1 (v2.1.Sig.R.l.map (eI .u64)))), (6, (.arr 1 (v2.1.Sig.S.l.map (eI .u64))))]))])), (.im (.v .nilIface))]) [] 0)) (obs := [Ct.Ok PX 24 ⟨[(.im (.sl 1 (p0.map (eI .u8))))], [], 0, (.tup [(.im (.st [(1, (eI .i64 v1.1.Class)), (1, (eI .i64 v1.1.Tag)), (1, (eB v1.1.Made)), (1, (.sl 1 (v1.1.Body.map (eI .u8)))), (1, (.sl 5 (v1.1.Kids.map eSTlv)))])), (.im (.v .nilIface))]), [], 0⟩, Ct.Ok PX 72 ⟨[(.im (.st [(1, (eI .i64 v1.1.Class)), (1, (eI .i64 v1.1.Tag)), (1, (eB v1.1.Made)), (1, (.sl 1 (v1.1.Body.map (eI .u8)))), (1, (.sl 5 (v1.1.Kids.map eSTlv)))]))], [], 0, (.tup [(.im (.st [(1, (.sl 2 (v2.1.Issuer.map eSPart))), (1, (eI .i64 v2.1.This)), (1, (eI .i64 v2.1.Next)), (1, (.sl 2 (v2.1.Gone.map eSGone))), (1, (.sl 1 (v2.1.Body.map (eI .u8)))), (12, (.st [(6, (.arr 1 (v2.1.Sig.R.l.map (eI .u64)))), (6, (.arr 1 (v2.1.Sig.S.l.map (eI .u64))))]))])), (.im (eB v2.2))]), [], 0⟩, (!v2.2) = false])
        (by kernel_rfl) ⟨(by have q := (f24_ok k p0 v1 h1); rw [h2] at q; exact q), (f72_ok k v1.1 v2 h3), (not_f h4), trivial⟩ (fun fn hfn => ⟨rfl, rfl, rfl⟩)
    · rw [if_neg h4] at h
      replace h := Option.some.inj h; subst h
      exact Ct.ofWalk hT hm F32 (by kernel_rfl) (n := 1000) (ds := [.r [], .r [(1, ⟨(.c false [] ⟨[], [], [], 0, (.tup [(.im (.st [(1, (eI .i64 v1.1.Class)), (1, (eI .i64 v1.1.Tag)), (1, (eB v1.1.Made)), (1, (.sl 1 (v1.1.Body.map (eI .u8)))), (1, (.sl 5 (v1.1.Kids.map eSTlv)))])), (.im (.v .nilIface))]), [], 0, [], 1⟩), [], []⟩)], .r [], .bc false, .r [(1, ⟨(.c false [] ⟨[], [], [], 0, (.tup [(.im (.st [(1, (.sl 2 (v2.1.Issuer.map eSPart))), (1, (eI .i64 v2.1.This)), (1, (eI .i64 v2.1.Next)), (1, (.sl 2 (v2.1.Gone.map eSGone))), (1, (.sl 1 (v2.1.Body.map (eI .u8)))), (12, (.st [(6, (.arr 1 (v2.1.Sig.R.l.map (eI .u64)))), (6, (.arr 1 (v2.1.Sig.S.l.map (eI .u64))))]))])), (.im (eB v2.2))]), [], 0, [], 2⟩), [], []⟩)], .r [], .b true, .r [], .k ⟨[], [], [], [], [], 0, [(0, (.s [(.s [(.n 2), .k, .k, (.n 2), (.n 1)])]))], []⟩])
        (r := (.fin (.tup [(.im (.st [(1, (.sl 2 [])), (1, (eI .i64 0)), (1, (eI .i64 0)), (1, (.sl 2 [])), (1, (.sl 1 [])), (12, (.st [(6, (.arr 1 [(eI .u64 0), (eI .u64 0), (eI .u64 0), (eI .u64 0), (eI .u64 0), (eI .u64 0)])), (6, (.arr 1 [(eI .u64 0), (eI .u64 0), (eI .u64 0), (eI .u64 0), (eI .u64 0), (eI .u64 0)]))]))])), (.im (.ifc 40 (eI .i64 7)))]) [] 0)) (obs := [Ct.Ok PX 24 ⟨[(.im (.sl 1 (p0.map (eI .u8))))], [], 0, (.tup [(.im (.st [(1, (eI .i64 v1.1.Class)), (1, (eI .i64 v1.1.Tag)), (1, (eB v1.1.Made)), (1, (.sl 1 (v1.1.Body.map (eI .u8)))), (1, (.sl 5 (v1.1.Kids.map eSTlv)))])), (.im (.v .nilIface))]), [], 0⟩, Ct.Ok PX 72 ⟨[(.im (.st [(1, (eI .i64 v1.1.Class)), (1, (eI .i64 v1.1.Tag)), (1, (eB v1.1.Made)), (1, (.sl 1 (v1.1.Body.map (eI .u8)))), (1, (.sl 5 (v1.1.Kids.map eSTlv)))]))], [], 0, (.tup [(.im (.st [(1, (.sl 2 (v2.1.Issuer.map eSPart))), (1, (eI .i64 v2.1.This)), (1, (eI .i64 v2.1.Next)), (1, (.sl 2 (v2.1.Gone.map eSGone))), (1, (.sl 1 (v2.1.Body.map (eI .u8)))), (12, (.st [(6, (.arr 1 (v2.1.Sig.R.l.map (eI .u64)))), (6, (.arr 1 (v2.1.Sig.S.l.map (eI .u64))))]))])), (.im (eB v2.2))]), [], 0⟩, (!v2.2) = true])
        (by kernel_rfl) ⟨(by have q := (f24_ok k p0 v1 h1); rw [h2] at q; exact q), (f72_ok k v1.1 v2 h3), (not_t (vf h4)), trivial⟩ (fun fn hfn => ⟨rfl, rfl, rfl⟩)
  · rw [h2] at h; dsimp only [Er.on] at h
    replace h := Option.some.inj h; subst h
    exact Ct.ofWalk hT hm F32 (by kernel_rfl) (n := 1000) (ds := [.r [], .r [(1, ⟨(.c false [] ⟨[], [], [], 0, (.tup [(.im (.st [(1, (eI .i64 v1.1.Class)), (1, (eI .i64 v1.1.Tag)), (1, (eB v1.1.Made)), (1, (.sl 1 (v1.1.Body.map (eI .u8)))), (1, (.sl 5 (v1.1.Kids.map eSTlv)))])), (.im (.ifc 40 (eI .i64 v2)))]), [], 0, [], 1⟩), [], []⟩)], .r [], .bc true, .r [], .k ⟨[], [], [], [], [], 0, [(0, (.s [(.s [(.n 2), .k, .k, (.n 2), (.n 1)])]))], []⟩])
      (r := (.fin (.tup [(.im (.st [(1, (.sl 2 [])), (1, (eI .i64 0)), (1, (eI .i64 0)), (1, (.sl 2 [])), (1, (.sl 1 [])), (12, (.st [(6, (.arr 1 [(eI .u64 0), (eI .u64 0), (eI .u64 0), (eI .u64 0), (eI .u64 0), (eI .u64 0)])), (6, (.arr 1 [(eI .u64 0), (eI .u64 0), (eI .u64 0), (eI .u64 0), (eI .u64 0), (eI .u64 0)]))]))])), (.im (.ifc 40 (eI .i64 v2)))]) [] 0)) (obs := [Ct.Ok PX 24 ⟨[(.im (.sl 1 (p0.map (eI .u8))))], [], 0, (.tup [(.im (.st [(1, (eI .i64 v1.1.Class)), (1, (eI .i64 v1.1.Tag)), (1, (eB v1.1.Made)), (1, (.sl 1 (v1.1.Body.map (eI .u8)))), (1, (.sl 5 (v1.1.Kids.map eSTlv)))])), (.im (.ifc 40 (eI .i64 v2)))]), [], 0⟩])
      (by kernel_rfl) ⟨(by have q := (f24_ok k p0 v1 h1); rw [h2] at q; exact q), trivial⟩ (fun fn hfn => ⟨rfl, rfl, rfl⟩)
  · rw [h2] at h; dsimp only [Er.on] at h
    replace h := Option.some.inj h; subst h
    exact Ct.ofWalk hT hm F32 (by kernel_rfl) (n := 1000) (ds := [.r [], .r [(1, ⟨(.c false [] ⟨[], [], [], 0, (.tup [(.im (.st [(1, (eI .i64 v1.1.Class)), (1, (eI .i64 v1.1.Tag)), (1, (eB v1.1.Made)), (1, (.sl 1 (v1.1.Body.map (eI .u8)))), (1, (.sl 5 (v1.1.Kids.map eSTlv)))])), (.im (.ifc 77 (.pim 2 (.st [(1, (eI .i64 v2)), (1, (.ifc 40 (eI .i64 v3)))]))))]), [], 0, [], 1⟩), [], []⟩)], .r [], .bc true, .r [], .k ⟨[], [], [], [], [], 0, [(0, (.s [(.s [(.n 2), .k, .k, (.n 2), (.n 1)])]))], []⟩])
      (r := (.fin (.tup [(.im (.st [(1, (.sl 2 [])), (1, (eI .i64 0)), (1, (eI .i64 0)), (1, (.sl 2 [])), (1, (.sl 1 [])), (12, (.st [(6, (.arr 1 [(eI .u64 0), (eI .u64 0), (eI .u64 0), (eI .u64 0), (eI .u64 0), (eI .u64 0)])), (6, (.arr 1 [(eI .u64 0), (eI .u64 0), (eI .u64 0), (eI .u64 0), (eI .u64 0), (eI .u64 0)]))]))])), (.im (.ifc 77 (.pim 2 (.st [(1, (eI .i64 v2)), (1, (.ifc 40 (eI .i64 v3)))]))))]) [] 0)) (obs := [Ct.Ok PX 24 ⟨[(.im (.sl 1 (p0.map (eI .u8))))], [], 0, (.tup [(.im (.st [(1, (eI .i64 v1.1.Class)), (1, (eI .i64 v1.1.Tag)), (1, (eB v1.1.Made)), (1, (.sl 1 (v1.1.Body.map (eI .u8)))), (1, (.sl 5 (v1.1.Kids.map eSTlv)))])), (.im (.ifc 77 (.pim 2 (.st [(1, (eI .i64 v2)), (1, (.ifc 40 (eI .i64 v3)))]))))]), [], 0⟩])
      (by kernel_rfl) ⟨(by have q := (f24_ok k p0 v1 h1); rw [h2] at q; exact q), trivial⟩ (fun fn hfn => ⟨rfl, rfl, rfl⟩)
end Go.Proofs.Tryd.E
end
