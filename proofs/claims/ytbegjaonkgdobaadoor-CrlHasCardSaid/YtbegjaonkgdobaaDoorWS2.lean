/- What the functions compute, as plain models, and the walks that show it. -/
import Derived.Test.YtbegjaonkgdobaaDoorWS1
set_option linter.unusedVariables false
set_option linter.unusedSimpArgs false
set_option linter.unusedSectionVars false
section
namespace Go.Proofs.Tryd.E
open Go Go.Eng
set_option maxRecDepth 100000
set_option linter.unusedVariables false
def f167L0_S (p0 : (List STlv)) (x2 : Int) : S := ⟨[(0, (.im (.sl 5 (p0.map eSTlv)))), (1, (.im (.fn 158 []))), (7, (.im (eI .i64 (p0.length : Int)))), (8, (.im (eI .i64 x2)))], [], 0⟩

mutual
def f124 : Nat → STlv → Option (Bool)
  | 0, _ => none
  | k + 1, p0 =>
    if p0.Class < 0 then (
     some false)
    else (
     if p0.Class > 3 then (
      some false)
     else (
      if p0.Tag < 0 then (
       some false)
      else (
       if p0.Tag ≥ 31 then (
        some false)
       else (
        if p0.Made = true then (
         if (p0.Body.length : Int) > 0 then (
          some false)
         else (
          (f157 k p0.Kids).bind fun v1 =>
          some (!v1)))
        else (
         if (p0.Kids.length : Int) > 0 then (
          some false)
         else (
          (f157 k p0.Kids).bind fun v1 =>
          some (!v1)))))))
def f157 : Nat → (List STlv) → Option (Bool)
  | 0, _ => none
  | k + 1, p0 =>
    (f167 k p0).bind fun v1 =>
    some (decide (v1 ≥ 0))
def f167 : Nat → (List STlv) → Option (Int)
  | 0, _ => none
  | k + 1, p0 =>
    f167L0 k p0 0
def f167L0 : Nat → (List STlv) → Int → Option (Int)
  | 0, _, _ => none
  | k + 1, p0, x2 =>
    if x2 < (p0.length : Int) then (
     (rd p0 x2).bind fun v1 =>
     (f158 k v1).bind fun v2 =>
     if v2 = true then (
      some x2)
     else (
      f167L0 k p0 (IntKind.wrap .i64 (x2 + 1))))
    else (
     some (-1))
def f158 : Nat → STlv → Option (Bool)
  | 0, _ => none
  | k + 1, p0 =>
    (f124 k p0).bind fun v1 =>
    some (!v1)
end

def f124_P (k : Nat) : Prop := ∀ (p0 : STlv) (r : Bool), f124 k p0 = some r → Ct.Ok PX 124 ⟨[(.im (.st [(1, (eI .i64 p0.Class)), (1, (eI .i64 p0.Tag)), (1, (eB p0.Made)), (1, (.sl 1 (p0.Body.map (eI .u8)))), (1, (.sl 5 (p0.Kids.map eSTlv)))]))], [], 0, (.im (eB r)), [], 0⟩

def f157_P (k : Nat) : Prop := ∀ (p0 : (List STlv)) (r : Bool), f157 k p0 = some r → Ct.Ok PX 157 ⟨[(.im (.sl 5 (p0.map eSTlv))), (.im (.fn 158 []))], [], 0, (.im (eB r)), [], 0⟩

def f167_P (k : Nat) : Prop := ∀ (p0 : (List STlv)) (r : Int), f167 k p0 = some r → Ct.Ok PX 167 ⟨[(.im (.sl 5 (p0.map eSTlv))), (.im (.fn 158 []))], [], 0, (.im (eI .i64 r)), [], 0⟩

def f167L0_P (k : Nat) : Prop := ∀ (fn : Func) (_ : fn.results = ([.t 4].map Rv.var).toArray), ∀ (p0 : (List STlv)) (x2 : Int) (r : Int), f167L0 k p0 x2 = some r → LH PX ⟨fn, 19, 0, (.im (eI .i64 r)), [], 0⟩ cc167_0 [.blk 0, .seq cc167_1] (f167L0_S p0 x2)

def f158_P (k : Nat) : Prop := ∀ (p0 : STlv) (r : Bool), f158 k p0 = some r → Ct.Ok PX 158 ⟨[(.im (.st [(1, (eI .i64 p0.Class)), (1, (eI .i64 p0.Tag)), (1, (eB p0.Made)), (1, (.sl 1 (p0.Body.map (eI .u8)))), (1, (.sl 5 (p0.Kids.map eSTlv)))]))], [], 0, (.im (eB r)), [], 0⟩

theorem f124_step (k : Nat) (ih_f124 : f124_P k) (ih_f157 : f157_P k) (ih_f167 : f167_P k) (ih_f167L0 : f167L0_P k) (ih_f158 : f158_P k) : f124_P (k + 1) := by
  intro p0 r h
  rw [f124] at h
  by_cases h1 : p0.Class < 0
  · rw [if_pos h1] at h
    replace h := Option.some.inj h; subst h
    exact Ct.ofWalk hT hm F124 (by kernel_rfl) (n := 1000) (ds := [.r [], .r [(4, ⟨(.h .gf), [], []⟩), (5, ⟨(.h .gf), [], []⟩), (6, ⟨(.h .gf), [], []⟩), (7, ⟨(.h (.gt .no)), [], []⟩)], .bc true, .r [], .k ⟨[], [], [], [], [], 0, [], []⟩])
      (r := (.fin (.im (eB false)) [] 0)) (obs := [(decide (p0.Class < 0)) = !false, (decide (p0.Class < 0)) = !false, (decide (p0.Class < 0)) = !false, (decide (p0.Class < 0)) = true])
      (by kernel_rfl) ⟨(dt h1), (dt h1), (dt h1), (dt h1), trivial⟩ (fun fn hfn => ⟨rfl, rfl, rfl⟩)
  · rw [if_neg h1] at h
    by_cases h2 : p0.Class > 3
    · rw [if_pos h2] at h
      replace h := Option.some.inj h; subst h
      exact Ct.ofWalk hT hm F124 (by kernel_rfl) (n := 1000) (ds := [.r [], .r [(4, ⟨(.h (.gt .no)), [], []⟩), (5, ⟨(.h (.gt .no)), [], []⟩), (6, ⟨(.h (.gt .no)), [], []⟩), (7, ⟨(.h .gf), [], []⟩), (9, ⟨(.h .gf), [], []⟩), (10, ⟨(.h .gf), [], []⟩), (11, ⟨(.h .gf), [], []⟩), (12, ⟨(.h (.gt .no)), [], []⟩)], .bc true, .r [], .k ⟨[], [], [], [], [], 0, [], []⟩])
        (r := (.fin (.im (eB false)) [] 0)) (obs := [(decide (p0.Class < 0)) = false, (decide (p0.Class < 0)) = false, (decide (p0.Class < 0)) = false, (decide (p0.Class < 0)) = false, (decide (p0.Class > 3)) = !false, (decide (p0.Class > 3)) = !false, (decide (p0.Class > 3)) = !false, (decide (p0.Class > 3)) = true])
        (by kernel_rfl) ⟨(df h1), (df h1), (df h1), (df h1), (dt h2), (dt h2), (dt h2), (dt h2), trivial⟩ (fun fn hfn => ⟨rfl, rfl, rfl⟩)
    · rw [if_neg h2] at h
      by_cases h3 : p0.Tag < 0
      · rw [if_pos h3] at h
        replace h := Option.some.inj h; subst h
        exact Ct.ofWalk hT hm F124 (by kernel_rfl) (n := 1000) (ds := [.r [], .r [(4, ⟨(.h (.gt .no)), [], []⟩), (5, ⟨(.h (.gt .no)), [], []⟩), (6, ⟨(.h (.gt .no)), [], []⟩), (7, ⟨(.h .gf), [], []⟩), (9, ⟨(.h (.gt .no)), [], []⟩), (10, ⟨(.h (.gt .no)), [], []⟩), (11, ⟨(.h (.gt .no)), [], []⟩), (12, ⟨(.h .gf), [], []⟩), (14, ⟨(.h .gf), [], []⟩), (15, ⟨(.h .gf), [], []⟩), (16, ⟨(.h .gf), [], []⟩), (17, ⟨(.h (.gt .no)), [], []⟩)], .bc true, .r [], .k ⟨[], [], [], [], [], 0, [], []⟩])
          (r := (.fin (.im (eB false)) [] 0)) (obs := [(decide (p0.Class < 0)) = false, (decide (p0.Class < 0)) = false, (decide (p0.Class < 0)) = false, (decide (p0.Class < 0)) = false, (decide (p0.Class > 3)) = false, (decide (p0.Class > 3)) = false, (decide (p0.Class > 3)) = false, (decide (p0.Class > 3)) = false, (decide (p0.Tag < 0)) = !false, (decide (p0.Tag < 0)) = !false, (decide (p0.Tag < 0)) = !false, (decide (p0.Tag < 0)) = true])
          (by kernel_rfl) ⟨(df h1), (df h1), (df h1), (df h1), (df h2), (df h2), (df h2), (df h2), (dt h3), (dt h3), (dt h3), (dt h3), trivial⟩ (fun fn hfn => ⟨rfl, rfl, rfl⟩)
      · rw [if_neg h3] at h
        by_cases h4 : p0.Tag ≥ 31
        · rw [if_pos h4] at h
          replace h := Option.some.inj h; subst h
          exact Ct.ofWalk hT hm F124 (by kernel_rfl) (n := 1000) (ds := [.r [], .r [(4, ⟨(.h (.gt .no)), [], []⟩), (5, ⟨(.h (.gt .no)), [], []⟩), (6, ⟨(.h (.gt .no)), [], []⟩), (7, ⟨(.h .gf), [], []⟩), (9, ⟨(.h (.gt .no)), [], []⟩), (10, ⟨(.h (.gt .no)), [], []⟩), (11, ⟨(.h (.gt .no)), [], []⟩), (12, ⟨(.h .gf), [], []⟩), (14, ⟨(.h (.gt .no)), [], []⟩), (15, ⟨(.h (.gt .no)), [], []⟩), (16, ⟨(.h (.gt .no)), [], []⟩), (17, ⟨(.h .gf), [], []⟩), (19, ⟨(.h .gf), [], []⟩), (20, ⟨(.h .gf), [], []⟩), (21, ⟨(.h .gf), [], []⟩), (26, ⟨(.h .gf), [], []⟩), (27, ⟨(.h (.gt .no)), [], []⟩)], .bc true, .r [], .k ⟨[], [], [], [], [], 0, [], []⟩])
            (r := (.fin (.im (eB false)) [] 0)) (obs := [(decide (p0.Class < 0)) = false, (decide (p0.Class < 0)) = false, (decide (p0.Class < 0)) = false, (decide (p0.Class < 0)) = false, (decide (p0.Class > 3)) = false, (decide (p0.Class > 3)) = false, (decide (p0.Class > 3)) = false, (decide (p0.Class > 3)) = false, (decide (p0.Tag < 0)) = false, (decide (p0.Tag < 0)) = false, (decide (p0.Tag < 0)) = false, (decide (p0.Tag < 0)) = false, (decide (p0.Tag ≥ 31)) = !false, (decide (p0.Tag ≥ 31)) = !false, (decide (p0.Tag ≥ 31)) = !false, (decide (p0.Tag ≥ 31)) = !false, (decide (p0.Tag ≥ 31)) = true])
            (by kernel_rfl) ⟨(df h1), (df h1), (df h1), (df h1), (df h2), (df h2), (df h2), (df h2), (df h3), (df h3), (df h3), (df h3), (dt h4), (dt h4), (dt h4), (dt h4), (dt h4), trivial⟩ (fun fn hfn => ⟨rfl, rfl, rfl⟩)
        · rw [if_neg h4] at h
          by_cases h5 : p0.Made = true
          · rw [if_pos h5] at h
            by_cases h6 : (p0.Body.length : Int) > 0
            · rw [if_pos h6] at h
              replace h := Option.some.inj h; subst h
              exact Ct.ofWalk hT hm F124 (by kernel_rfl) (n := 1000) (ds := [.r [], .r [(4, ⟨(.h (.gt .no)), [], []⟩), (5, ⟨(.h (.gt .no)), [], []⟩), (6, ⟨(.h (.gt .no)), [], []⟩), (7, ⟨(.h .gf), [], []⟩), (9, ⟨(.h (.gt .no)), [], []⟩), (10, ⟨(.h (.gt .no)), [], []⟩), (11, ⟨(.h (.gt .no)), [], []⟩), (12, ⟨(.h .gf), [], []⟩), (14, ⟨(.h (.gt .no)), [], []⟩), (15, ⟨(.h (.gt .no)), [], []⟩), (16, ⟨(.h (.gt .no)), [], []⟩), (17, ⟨(.h .gf), [], []⟩), (19, ⟨(.h (.gt .no)), [], []⟩), (20, ⟨(.h (.gt .no)), [], []⟩), (21, ⟨(.h (.gt .no)), [], []⟩), (22, ⟨(.h (.gt .no)), [], []⟩), (23, ⟨(.h (.gt .no)), [], []⟩), (24, ⟨(.h (.gt (.int (p0.Body.length : Int)))), [], []⟩), (25, ⟨(.h (.gt .no)), [], []⟩), (26, ⟨(.h (.gt (.gt .no))), [], []⟩), (27, ⟨(.h .gf), [], []⟩), (29, ⟨(.h .gf), [], []⟩), (30, ⟨(.h .gf), [], []⟩), (31, ⟨(.h .gf), [], []⟩), (32, ⟨(.h .gf), [], []⟩), (37, ⟨(.h .gf), [], []⟩), (38, ⟨(.h (.gt .no)), [], []⟩)], .bc true, .r [], .k ⟨[], [], [], [], [], 0, [], []⟩])
                (r := (.fin (.im (eB false)) [] 0)) (obs := [(decide (p0.Class < 0)) = false, (decide (p0.Class < 0)) = false, (decide (p0.Class < 0)) = false, (decide (p0.Class < 0)) = false, (decide (p0.Class > 3)) = false, (decide (p0.Class > 3)) = false, (decide (p0.Class > 3)) = false, (decide (p0.Class > 3)) = false, (decide (p0.Tag < 0)) = false, (decide (p0.Tag < 0)) = false, (decide (p0.Tag < 0)) = false, (decide (p0.Tag < 0)) = false, (decide (p0.Tag ≥ 31)) = false, (decide (p0.Tag ≥ 31)) = false, (decide (p0.Tag ≥ 31)) = false, p0.Made = true, p0.Made = true, p0.Made = true, ((p0.Body.map (eI .u8)).length : Int) = (p0.Body.length : Int), p0.Made = true, (decide (p0.Tag ≥ 31)) = false, p0.Made = true, (decide (p0.Tag ≥ 31)) = false, (decide ((p0.Body.length : Int) > 0)) = !false, (decide ((p0.Body.length : Int) > 0)) = !false, (decide ((p0.Body.length : Int) > 0)) = !false, (decide ((p0.Body.length : Int) > 0)) = !false, (decide ((p0.Body.length : Int) > 0)) = !false, (decide ((p0.Body.length : Int) > 0)) = true])
                (by kernel_rfl) ⟨(df h1), (df h1), (df h1), (df h1), (df h2), (df h2), (df h2), (df h2), (df h3), (df h3), (df h3), (df h3), (df h4), (df h4), (df h4), h5, h5, h5, (len_m (eI .u8) _), h5, (df h4), h5, (df h4), (dt h6), (dt h6), (dt h6), (dt h6), (dt h6), (dt h6), trivial⟩ (fun fn hfn => ⟨rfl, rfl, rfl⟩)
            · rw [if_neg h6] at h
              obtain ⟨v1, h7, h⟩ := bnd h
              replace h := Option.some.inj h; subst h
              exact Ct.ofWalk hT hm F124 (by kernel_rfl) (n := 1000) (ds := [.r [], .r [(4, ⟨(.h (.gt .no)), [], []⟩), (5, ⟨(.h (.gt .no)), [], []⟩), (6, ⟨(.h (.gt .no)), [], []⟩), (7, ⟨(.h .gf), [], []⟩), (9, ⟨(.h (.gt .no)), [], []⟩), (10, ⟨(.h (.gt .no)), [], []⟩), (11, ⟨(.h (.gt .no)), [], []⟩), (12, ⟨(.h .gf), [], []⟩), (14, ⟨(.h (.gt .no)), [], []⟩), (15, ⟨(.h (.gt .no)), [], []⟩), (16, ⟨(.h (.gt .no)), [], []⟩), (17, ⟨(.h .gf), [], []⟩), (19, ⟨(.h (.gt .no)), [], []⟩), (20, ⟨(.h (.gt .no)), [], []⟩), (21, ⟨(.h (.gt .no)), [], []⟩), (22, ⟨(.h (.gt .no)), [], []⟩), (23, ⟨(.h (.gt .no)), [], []⟩), (24, ⟨(.h (.gt (.int (p0.Body.length : Int)))), [], []⟩), (25, ⟨(.h (.gt .no)), [], []⟩), (26, ⟨(.h (.gt (.gt .no))), [], []⟩), (27, ⟨(.h .gf), [], []⟩), (29, ⟨(.h (.gt .no)), [], []⟩), (30, ⟨(.h (.gt .no)), [], []⟩), (31, ⟨(.h (.gt .no)), [], []⟩), (32, ⟨(.h (.gt .no)), [], []⟩), (33, ⟨(.h .gf), [], []⟩), (34, ⟨(.h .gf), [], []⟩), (35, ⟨(.h .gf), [], []⟩), (36, ⟨(.h .gf), [], []⟩), (37, ⟨(.h (.gt .gf)), [], []⟩), (38, ⟨(.h .gf), [], []⟩)], .bc false, .r [(2, ⟨(.c false [] ⟨[], [], [], 0, (.im (eB v1)), [], 0, [], 1⟩), [], []⟩)], .k ⟨[], [], [], [], [], 0, [], []⟩])
                (r := (.fin (.im (eB (!v1))) [] 0)) (obs := [(decide (p0.Class < 0)) = false, (decide (p0.Class < 0)) = false, (decide (p0.Class < 0)) = false, (decide (p0.Class < 0)) = false, (decide (p0.Class > 3)) = false, (decide (p0.Class > 3)) = false, (decide (p0.Class > 3)) = false, (decide (p0.Class > 3)) = false, (decide (p0.Tag < 0)) = false, (decide (p0.Tag < 0)) = false, (decide (p0.Tag < 0)) = false, (decide (p0.Tag < 0)) = false, (decide (p0.Tag ≥ 31)) = false, (decide (p0.Tag ≥ 31)) = false, (decide (p0.Tag ≥ 31)) = false, p0.Made = true, p0.Made = true, p0.Made = true, ((p0.Body.map (eI .u8)).length : Int) = (p0.Body.length : Int), p0.Made = true, (decide (p0.Tag ≥ 31)) = false, p0.Made = true, (decide (p0.Tag ≥ 31)) = false, (decide ((p0.Body.length : Int) > 0)) = false, (decide ((p0.Body.length : Int) > 0)) = false, (decide ((p0.Body.length : Int) > 0)) = false, (decide ((p0.Body.length : Int) > 0)) = false, (!p0.Made) = !true, (!p0.Made) = !true, (!p0.Made) = !true, (!p0.Made) = !true, (decide ((p0.Body.length : Int) > 0)) = false, (!p0.Made) = false, (decide ((p0.Body.length : Int) > 0)) = false, Ct.Ok PX 157 ⟨[(.im (.sl 5 (p0.Kids.map eSTlv))), (.im (.fn 158 []))], [], 0, (.im (eB v1)), [], 0⟩])
                (by kernel_rfl) ⟨(df h1), (df h1), (df h1), (df h1), (df h2), (df h2), (df h2), (df h2), (df h3), (df h3), (df h3), (df h3), (df h4), (df h4), (df h4), h5, h5, h5, (len_m (eI .u8) _), h5, (df h4), h5, (df h4), (df h6), (df h6), (df h6), (df h6), (not_f h5), (not_f h5), (not_f h5), (not_f h5), (df h6), (not_f h5), (df h6), (ih_f157 p0.Kids v1 h7), trivial⟩ (fun fn hfn => ⟨rfl, rfl, rfl⟩)
          · rw [if_neg h5] at h
            by_cases h6 : (p0.Kids.length : Int) > 0
            · rw [if_pos h6] at h
              replace h := Option.some.inj h; subst h
              exact Ct.ofWalk hT hm F124 (by kernel_rfl) (n := 1000) (ds := [.r [], .r [(4, ⟨(.h (.gt .no)), [], []⟩), (5, ⟨(.h (.gt .no)), [], []⟩), (6, ⟨(.h (.gt .no)), [], []⟩), (7, ⟨(.h .gf), [], []⟩), (9, ⟨(.h (.gt .no)), [], []⟩), (10, ⟨(.h (.gt .no)), [], []⟩), (11, ⟨(.h (.gt .no)), [], []⟩), (12, ⟨(.h .gf), [], []⟩), (14, ⟨(.h (.gt .no)), [], []⟩), (15, ⟨(.h (.gt .no)), [], []⟩), (16, ⟨(.h (.gt .no)), [], []⟩), (17, ⟨(.h .gf), [], []⟩), (19, ⟨(.h (.gt .no)), [], []⟩), (20, ⟨(.h (.gt .no)), [], []⟩), (21, ⟨(.h (.gt .no)), [], []⟩), (22, ⟨(.h .gf), [], []⟩), (23, ⟨(.h .gf), [], []⟩), (24, ⟨(.h .gf), [], []⟩), (25, ⟨(.h .gf), [], []⟩), (26, ⟨(.h (.gt .gf)), [], []⟩), (27, ⟨(.h .gf), [], []⟩), (33, ⟨(.h (.gt .no)), [], []⟩), (34, ⟨(.h (.gt .no)), [], []⟩), (35, ⟨(.h (.gt (.int (p0.Kids.length : Int)))), [], []⟩), (36, ⟨(.h (.gt .no)), [], []⟩), (37, ⟨(.h (.gt (.gt .no))), [], []⟩)], .b true, .r [], .k ⟨[], [], [], [], [], 0, [], []⟩])
                (r := (.fin (.im (eB false)) [] 0)) (obs := [(decide (p0.Class < 0)) = false, (decide (p0.Class < 0)) = false, (decide (p0.Class < 0)) = false, (decide (p0.Class < 0)) = false, (decide (p0.Class > 3)) = false, (decide (p0.Class > 3)) = false, (decide (p0.Class > 3)) = false, (decide (p0.Class > 3)) = false, (decide (p0.Tag < 0)) = false, (decide (p0.Tag < 0)) = false, (decide (p0.Tag < 0)) = false, (decide (p0.Tag < 0)) = false, (decide (p0.Tag ≥ 31)) = false, (decide (p0.Tag ≥ 31)) = false, (decide (p0.Tag ≥ 31)) = false, p0.Made = !true, p0.Made = !true, p0.Made = !true, p0.Made = !true, (decide (p0.Tag ≥ 31)) = false, p0.Made = false, (decide (p0.Tag ≥ 31)) = false, (!p0.Made) = true, (!p0.Made) = true, (!p0.Made) = true, ((p0.Kids.map eSTlv).length : Int) = (p0.Kids.length : Int), (!p0.Made) = true, false = false, (!p0.Made) = true, (decide ((p0.Kids.length : Int) > 0)) = true])
                (by kernel_rfl) ⟨(df h1), (df h1), (df h1), (df h1), (df h2), (df h2), (df h2), (df h2), (df h3), (df h3), (df h3), (df h3), (df h4), (df h4), (df h4), (vf h5), (vf h5), (vf h5), (vf h5), (df h4), (vf h5), (df h4), (not_t (vf h5)), (not_t (vf h5)), (not_t (vf h5)), (len_m eSTlv _), (not_t (vf h5)), rfl, (not_t (vf h5)), (dt h6), trivial⟩ (fun fn hfn => ⟨rfl, rfl, rfl⟩)
            · rw [if_neg h6] at h
              obtain ⟨v1, h7, h⟩ := bnd h
              replace h := Option.some.inj h; subst h
              exact Ct.ofWalk hT hm F124 (by kernel_rfl) (n := 1000) (ds := [.r [], .r [(4, ⟨(.h (.gt .no)), [], []⟩), (5, ⟨(.h (.gt .no)), [], []⟩), (6, ⟨(.h (.gt .no)), [], []⟩), (7, ⟨(.h .gf), [], []⟩), (9, ⟨(.h (.gt .no)), [], []⟩), (10, ⟨(.h (.gt .no)), [], []⟩), (11, ⟨(.h (.gt .no)), [], []⟩), (12, ⟨(.h .gf), [], []⟩), (14, ⟨(.h (.gt .no)), [], []⟩), (15, ⟨(.h (.gt .no)), [], []⟩), (16, ⟨(.h (.gt .no)), [], []⟩), (17, ⟨(.h .gf), [], []⟩), (19, ⟨(.h (.gt .no)), [], []⟩), (20, ⟨(.h (.gt .no)), [], []⟩), (21, ⟨(.h (.gt .no)), [], []⟩), (22, ⟨(.h .gf), [], []⟩), (23, ⟨(.h .gf), [], []⟩), (24, ⟨(.h .gf), [], []⟩), (25, ⟨(.h .gf), [], []⟩), (26, ⟨(.h (.gt .gf)), [], []⟩), (27, ⟨(.h .gf), [], []⟩), (33, ⟨(.h (.gt .no)), [], []⟩), (34, ⟨(.h (.gt .no)), [], []⟩), (35, ⟨(.h (.gt (.int (p0.Kids.length : Int)))), [], []⟩), (36, ⟨(.h (.gt .no)), [], []⟩), (37, ⟨(.h (.gt (.gt .no))), [], []⟩)], .b false, .r [(2, ⟨(.c false [] ⟨[], [], [], 0, (.im (eB v1)), [], 0, [], 1⟩), [], []⟩)], .k ⟨[], [], [], [], [], 0, [], []⟩])
                (r := (.fin (.im (eB (!v1))) [] 0)) (obs := [(decide (p0.Class < 0)) = false, (decide (p0.Class < 0)) = false, (decide (p0.Class < 0)) = false, (decide (p0.Class < 0)) = false, (decide (p0.Class > 3)) = false, (decide (p0.Class > 3)) = false, (decide (p0.Class > 3)) = false, (decide (p0.Class > 3)) = false, (decide (p0.Tag < 0)) = false, (decide (p0.Tag < 0)) = false, (decide (p0.Tag < 0)) = false, (decide (p0.Tag < 0)) = false, (decide (p0.Tag ≥ 31)) = false, (decide (p0.Tag ≥ 31)) = false, (decide (p0.Tag ≥ 31)) = false, p0.Made = !true, p0.Made = !true, p0.Made = !true, p0.Made = !true, (decide (p0.Tag ≥ 31)) = false, p0.Made = false, (decide (p0.Tag ≥ 31)) = false, (!p0.Made) = true, (!p0.Made) = true, (!p0.Made) = true, ((p0.Kids.map eSTlv).length : Int) = (p0.Kids.length : Int), (!p0.Made) = true, false = false, (!p0.Made) = true, (decide ((p0.Kids.length : Int) > 0)) = false, Ct.Ok PX 157 ⟨[(.im (.sl 5 (p0.Kids.map eSTlv))), (.im (.fn 158 []))], [], 0, (.im (eB v1)), [], 0⟩])
                (by kernel_rfl) ⟨(df h1), (df h1), (df h1), (df h1), (df h2), (df h2), (df h2), (df h2), (df h3), (df h3), (df h3), (df h3), (df h4), (df h4), (df h4), (vf h5), (vf h5), (vf h5), (vf h5), (df h4), (vf h5), (df h4), (not_t (vf h5)), (not_t (vf h5)), (not_t (vf h5)), (len_m eSTlv _), (not_t (vf h5)), rfl, (not_t (vf h5)), (df h6), (ih_f157 p0.Kids v1 h7), trivial⟩ (fun fn hfn => ⟨rfl, rfl, rfl⟩)

theorem f157_step (k : Nat) (ih_f124 : f124_P k) (ih_f157 : f157_P k) (ih_f167 : f167_P k) (ih_f167L0 : f167L0_P k) (ih_f158 : f158_P k) : f157_P (k + 1) := by
  intro p0 r h
  rw [f157] at h
  obtain ⟨v1, h1, h⟩ := bnd h
  replace h := Option.some.inj h; subst h
  exact Ct.ofWalk hT hm F157 (by kernel_rfl) (n := 1000) (ds := [.r [], .r [(2, ⟨(.c false [] ⟨[], [], [], 0, (.im (eI .i64 v1)), [], 0, [], 0⟩), [], []⟩)], .k ⟨[], [], [], [], [], 0, [], []⟩])
    (r := (.fin (.im (eB (decide (v1 ≥ 0)))) [] 0)) (obs := [Ct.Ok PX 167 ⟨[(.im (.sl 5 (p0.map eSTlv))), (.im (.fn 158 []))], [], 0, (.im (eI .i64 v1)), [], 0⟩])
    (by kernel_rfl) ⟨(ih_f167 p0 v1 h1), trivial⟩ (fun fn hfn => ⟨rfl, rfl, rfl⟩)

theorem f167_step (k : Nat) (ih_f124 : f124_P k) (ih_f157 : f157_P k) (ih_f167 : f167_P k) (ih_f167L0 : f167L0_P k) (ih_f158 : f158_P k) : f167_P (k + 1) := by
  intro p0 r h
  rw [f167] at h
  exact Ct.ofWalk hT hm F167 (by kernel_rfl) (n := 1000) (ds := [.r [], .r [(1, ⟨(.h (.int (p0.length : Int))), [], []⟩)], .k ⟨[], [], [], [0, 1, 7, 8], [], 0, [], []⟩])
    (r := (.head cc167_0 [.blk 0, .seq cc167_1] (f167L0_S p0 0))) (obs := [((p0.map eSTlv).length : Int) = (p0.length : Int)])
    (by kernel_rfl) ⟨(len_m eSTlv _), trivial⟩ (fun fn hfn => ih_f167L0 fn hfn p0 0 _ h)

theorem f167L0_step (k : Nat) (ih_f124 : f124_P k) (ih_f157 : f157_P k) (ih_f167 : f167_P k) (ih_f167L0 : f167L0_P k) (ih_f158 : f158_P k) : f167L0_P (k + 1) := by
  intro fn hfn p0 x2 r h
  rw [f167L0] at h
  by_cases h1 : x2 < (p0.length : Int)
  · rw [if_pos h1] at h
    obtain ⟨v1, h2, h⟩ := bnd h
    obtain ⟨v2, h3, h⟩ := bnd h
    by_cases h4 : v2 = true
    · rw [if_pos h4] at h
      replace h := Option.some.inj h; subst h
      exact LH.round hT hm hfn (n := 1000) (ds := [.r [], .b true, .r [], .r [(3, ⟨(.h (.iv (.st [(1, (eI .i64 v1.Class)), (1, (eI .i64 v1.Tag)), (1, (eB v1.Made)), (1, (.sl 1 (v1.Body.map (eI .u8)))), (1, (.sl 5 (v1.Kids.map eSTlv)))]))), [], []⟩), (5, ⟨(.c false [] ⟨[], [], [], 0, (.im (eB v2)), [], 0, [], 0⟩), [], []⟩)], .b true, .r [], .k ⟨[], [], [], [], [], 0, [], []⟩])
        (r := (.fin (.im (eI .i64 x2)) [] 0)) (obs := [(decide (x2 < (p0.length : Int))) = true, 0 ≤ x2, (p0.map eSTlv)[(x2).toNat]? = some (.st [(1, (eI .i64 v1.Class)), (1, (eI .i64 v1.Tag)), (1, (eB v1.Made)), (1, (.sl 1 (v1.Body.map (eI .u8)))), (1, (.sl 5 (v1.Kids.map eSTlv)))]), Ct.Ok PX 158 ⟨[(.im (.st [(1, (eI .i64 v1.Class)), (1, (eI .i64 v1.Tag)), (1, (eB v1.Made)), (1, (.sl 1 (v1.Body.map (eI .u8)))), (1, (.sl 5 (v1.Kids.map eSTlv)))]))], [], 0, (.im (eB v2)), [], 0⟩, v2 = true])
        (by kernel_rfl) ⟨(dt h1), (rd_nn h2), (by rw [← eSTlv_eq v1]; exact (rd_map eSTlv h2)), (ih_f158 v1 v2 h3), h4, trivial⟩ ⟨rfl, rfl, rfl⟩
    · rw [if_neg h4] at h
      exact LH.round hT hm hfn (n := 1000) (ds := [.r [], .b true, .r [], .r [(3, ⟨(.h (.iv (.st [(1, (eI .i64 v1.Class)), (1, (eI .i64 v1.Tag)), (1, (eB v1.Made)), (1, (.sl 1 (v1.Body.map (eI .u8)))), (1, (.sl 5 (v1.Kids.map eSTlv)))]))), [], []⟩), (5, ⟨(.c false [] ⟨[], [], [], 0, (.im (eB v2)), [], 0, [], 0⟩), [], []⟩)], .b false, .r [], .k ⟨[], [], [], [0, 1, 7, 8], [], 0, [], []⟩])
        (r := (.head cc167_0 [.blk 0, .seq cc167_1] (f167L0_S p0 (IntKind.wrap .i64 (x2 + 1))))) (obs := [(decide (x2 < (p0.length : Int))) = true, 0 ≤ x2, (p0.map eSTlv)[(x2).toNat]? = some (.st [(1, (eI .i64 v1.Class)), (1, (eI .i64 v1.Tag)), (1, (eB v1.Made)), (1, (.sl 1 (v1.Body.map (eI .u8)))), (1, (.sl 5 (v1.Kids.map eSTlv)))]), Ct.Ok PX 158 ⟨[(.im (.st [(1, (eI .i64 v1.Class)), (1, (eI .i64 v1.Tag)), (1, (eB v1.Made)), (1, (.sl 1 (v1.Body.map (eI .u8)))), (1, (.sl 5 (v1.Kids.map eSTlv)))]))], [], 0, (.im (eB v2)), [], 0⟩, v2 = false])
        (by kernel_rfl) ⟨(dt h1), (rd_nn h2), (by rw [← eSTlv_eq v1]; exact (rd_map eSTlv h2)), (ih_f158 v1 v2 h3), (vf h4), trivial⟩ (ih_f167L0 fn hfn p0 (IntKind.wrap .i64 (x2 + 1)) _ h)
  · rw [if_neg h1] at h
    replace h := Option.some.inj h; subst h
    exact LH.round hT hm hfn (n := 1000) (ds := [.r [], .b false, .r [], .k ⟨[], [], [], [], [], 0, [], []⟩])
      (r := (.fin (.im (eI .i64 (-1))) [] 0)) (obs := [(decide (x2 < (p0.length : Int))) = false])
      (by kernel_rfl) ⟨(df h1), trivial⟩ ⟨rfl, rfl, rfl⟩

theorem f158_step (k : Nat) (ih_f124 : f124_P k) (ih_f157 : f157_P k) (ih_f167 : f167_P k) (ih_f167L0 : f167L0_P k) (ih_f158 : f158_P k) : f158_P (k + 1) := by
  intro p0 r h
  rw [f158] at h
  obtain ⟨v1, h1, h⟩ := bnd h
  replace h := Option.some.inj h; subst h
  exact Ct.ofWalk hT hm F158 (by kernel_rfl) (n := 1000) (ds := [.r [], .r [(1, ⟨(.c false [] ⟨[], [], [], 0, (.im (eB v1)), [], 0, [], 1⟩), [], []⟩)], .k ⟨[], [], [], [], [], 0, [], []⟩])
    (r := (.fin (.im (eB (!v1))) [] 0)) (obs := [Ct.Ok PX 124 ⟨[(.im (.st [(1, (eI .i64 p0.Class)), (1, (eI .i64 p0.Tag)), (1, (eB p0.Made)), (1, (.sl 1 (p0.Body.map (eI .u8)))), (1, (.sl 5 (p0.Kids.map eSTlv)))]))], [], 0, (.im (eB v1)), [], 0⟩])
    (by kernel_rfl) ⟨(ih_f124 p0 v1 h1), trivial⟩ (fun fn hfn => ⟨rfl, rfl, rfl⟩)

theorem f124_all : ∀ k, f124_P k ∧ f157_P k ∧ f167_P k ∧ f167L0_P k ∧ f158_P k
  | 0 => ⟨(by intro _ r h; rw [f124] at h; cases h), (by intro _ r h; rw [f157] at h; cases h), (by intro _ r h; rw [f167] at h; cases h), (by intro fn hfn _ _ r h; rw [f167L0] at h; cases h), (by intro _ r h; rw [f158] at h; cases h)⟩
  | k + 1 => ⟨f124_step k (f124_all k).1 (f124_all k).2.1 (f124_all k).2.2.1 (f124_all k).2.2.2.1 (f124_all k).2.2.2.2, f157_step k (f124_all k).1 (f124_all k).2.1 (f124_all k).2.2.1 (f124_all k).2.2.2.1 (f124_all k).2.2.2.2, f167_step k (f124_all k).1 (f124_all k).2.1 (f124_all k).2.2.1 (f124_all k).2.2.2.1 (f124_all k).2.2.2.2, f167L0_step k (f124_all k).1 (f124_all k).2.1 (f124_all k).2.2.1 (f124_all k).2.2.2.1 (f124_all k).2.2.2.2, f158_step k (f124_all k).1 (f124_all k).2.1 (f124_all k).2.2.1 (f124_all k).2.2.2.1 (f124_all k).2.2.2.2⟩

theorem f124_ok (k : Nat) : ∀ (p0 : STlv) (r : Bool), f124 k p0 = some r → Ct.Ok PX 124 ⟨[(.im (.st [(1, (eI .i64 p0.Class)), (1, (eI .i64 p0.Tag)), (1, (eB p0.Made)), (1, (.sl 1 (p0.Body.map (eI .u8)))), (1, (.sl 5 (p0.Kids.map eSTlv)))]))], [], 0, (.im (eB r)), [], 0⟩ := (f124_all k).1

theorem f157_ok (k : Nat) : ∀ (p0 : (List STlv)) (r : Bool), f157 k p0 = some r → Ct.Ok PX 157 ⟨[(.im (.sl 5 (p0.map eSTlv))), (.im (.fn 158 []))], [], 0, (.im (eB r)), [], 0⟩ := (f124_all k).2.1

theorem f167_ok (k : Nat) : ∀ (p0 : (List STlv)) (r : Int), f167 k p0 = some r → Ct.Ok PX 167 ⟨[(.im (.sl 5 (p0.map eSTlv))), (.im (.fn 158 []))], [], 0, (.im (eI .i64 r)), [], 0⟩ := (f124_all k).2.2.1

theorem f167L0_ok (fn : Func) (hfn : fn.results = ([.t 4].map Rv.var).toArray) (k : Nat) : ∀ (p0 : (List STlv)) (x2 : Int) (r : Int), f167L0 k p0 x2 = some r → LH PX ⟨fn, 19, 0, (.im (eI .i64 r)), [], 0⟩ cc167_0 [.blk 0, .seq cc167_1] (f167L0_S p0 x2) := (f124_all k).2.2.2.1 fn hfn

theorem f158_ok (k : Nat) : ∀ (p0 : STlv) (r : Bool), f158 k p0 = some r → Ct.Ok PX 158 ⟨[(.im (.st [(1, (eI .i64 p0.Class)), (1, (eI .i64 p0.Tag)), (1, (eB p0.Made)), (1, (.sl 1 (p0.Body.map (eI .u8)))), (1, (.sl 5 (p0.Kids.map eSTlv)))]))], [], 0, (.im (eB r)), [], 0⟩ := (f124_all k).2.2.2.2
end Go.Proofs.Tryd.E
end

section
namespace Go.Proofs.Tryd.E
open Go Go.Eng
set_option maxRecDepth 100000
set_option linter.unusedVariables false
def f167_1L0_S (p0 : (List STlv)) (p1 : Int) (x2 : Int) : S := ⟨[(0, (.im (.sl 5 (p0.map eSTlv)))), (1, (.im (.fn 159 [(.pim 1 (eI .i64 p1))]))), (7, (.im (eI .i64 (p0.length : Int)))), (8, (.im (eI .i64 x2)))], [], 0⟩

mutual
def f125 : Nat → STlv → Int → Option (Bool)
  | 0, _, _ => none
  | k + 1, p0, p1 =>
    if p1 < 1 then (
     some true)
    else (
     (f157_1 k p0.Kids p1).bind fun v1 =>
     some v1)
def f157_1 : Nat → (List STlv) → Int → Option (Bool)
  | 0, _, _ => none
  | k + 1, p0, p1 =>
    (f167_1 k p0 p1).bind fun v1 =>
    some (decide (v1 ≥ 0))
def f167_1 : Nat → (List STlv) → Int → Option (Int)
  | 0, _, _ => none
  | k + 1, p0, p1 =>
    f167_1L0 k p0 p1 0
def f167_1L0 : Nat → (List STlv) → Int → Int → Option (Int)
  | 0, _, _, _ => none
  | k + 1, p0, p1, x2 =>
    if x2 < (p0.length : Int) then (
     (rd p0 x2).bind fun v1 =>
     (f159 k v1 p1).bind fun v2 =>
     if v2 = true then (
      some x2)
     else (
      f167_1L0 k p0 p1 (IntKind.wrap .i64 (x2 + 1))))
    else (
     some (-1))
def f159 : Nat → STlv → Int → Option (Bool)
  | 0, _, _ => none
  | k + 1, p0, p1 =>
    (f125 k p0 (IntKind.wrap .i64 (p1 - 1))).bind fun v1 =>
    some v1
end

def f125_P (k : Nat) : Prop := ∀ (p0 : STlv) (p1 : Int) (r : Bool), f125 k p0 p1 = some r → Ct.Ok PX 125 ⟨[(.im (.st [(1, (eI .i64 p0.Class)), (1, (eI .i64 p0.Tag)), (1, (eB p0.Made)), (1, (.sl 1 (p0.Body.map (eI .u8)))), (1, (.sl 5 (p0.Kids.map eSTlv)))])), (.im (eI .i64 p1))], [], 0, (.im (eB r)), [], 0⟩

def f157_1_P (k : Nat) : Prop := ∀ (p0 : (List STlv)) (p1 : Int) (r : Bool), f157_1 k p0 p1 = some r → Ct.Ok PX 157 ⟨[(.im (.sl 5 (p0.map eSTlv))), (.im (.fn 159 [(.pim 1 (eI .i64 p1))]))], [], 0, (.im (eB r)), [], 0⟩

def f167_1_P (k : Nat) : Prop := ∀ (p0 : (List STlv)) (p1 : Int) (r : Int), f167_1 k p0 p1 = some r → Ct.Ok PX 167 ⟨[(.im (.sl 5 (p0.map eSTlv))), (.im (.fn 159 [(.pim 1 (eI .i64 p1))]))], [], 0, (.im (eI .i64 r)), [], 0⟩

def f167_1L0_P (k : Nat) : Prop := ∀ (fn : Func) (_ : fn.results = ([.t 4].map Rv.var).toArray), ∀ (p0 : (List STlv)) (p1 : Int) (x2 : Int) (r : Int), f167_1L0 k p0 p1 x2 = some r → LH PX ⟨fn, 19, 0, (.im (eI .i64 r)), [], 0⟩ cc167_0 [.blk 0, .seq cc167_1] (f167_1L0_S p0 p1 x2)

def f159_P (k : Nat) : Prop := ∀ (p0 : STlv) (p1 : Int) (r : Bool), f159 k p0 p1 = some r → Ct.Ok PX 159 ⟨[(.im (.st [(1, (eI .i64 p0.Class)), (1, (eI .i64 p0.Tag)), (1, (eB p0.Made)), (1, (.sl 1 (p0.Body.map (eI .u8)))), (1, (.sl 5 (p0.Kids.map eSTlv)))])), (.im (.pim 1 (eI .i64 p1)))], [], 0, (.im (eB r)), [], 0⟩

theorem f125_step (k : Nat) (ih_f125 : f125_P k) (ih_f157_1 : f157_1_P k) (ih_f167_1 : f167_1_P k) (ih_f167_1L0 : f167_1L0_P k) (ih_f159 : f159_P k) : f125_P (k + 1) := by
  intro p0 p1 r h
  rw [f125] at h
  by_cases h1 : p1 < 1
  · rw [if_pos h1] at h
    replace h := Option.some.inj h; subst h
    exact Ct.ofWalk hT hm F125 (by kernel_rfl) (n := 1000) (ds := [.r [], .r [(3, ⟨(.h .gf), [], []⟩), (4, ⟨(.h .gf), [], []⟩), (5, ⟨(.h .gf), [], []⟩), (6, ⟨(.h .gf), [], []⟩), (7, ⟨(.h (.gt .no)), [], []⟩)], .k ⟨[], [], [], [], [], 0, [], []⟩])
      (r := (.fin (.im (eB true)) [] 0)) (obs := [(decide (p1 < 1)) = !false, (decide (p1 < 1)) = !false, (decide (p1 < 1)) = !false, (decide (p1 < 1)) = !false, (decide (p1 < 1)) = true])
      (by kernel_rfl) ⟨(dt h1), (dt h1), (dt h1), (dt h1), (dt h1), trivial⟩ (fun fn hfn => ⟨rfl, rfl, rfl⟩)
  · rw [if_neg h1] at h
    obtain ⟨v1, h2, h⟩ := bnd h
    replace h := Option.some.inj h; subst h
    exact Ct.ofWalk hT hm F125 (by kernel_rfl) (n := 1000) (ds := [.r [], .r [(3, ⟨(.h (.gt .no)), [], []⟩), (4, ⟨(.h (.gt .no)), [], []⟩), (5, ⟨(.h (.gt .no)), [], []⟩), (6, ⟨(.c true [1] ⟨[], [], [], 0, (.im (eB v1)), [], 0, [], 2⟩), [], []⟩), (7, ⟨(.h .gf), [], []⟩)], .k ⟨[], [], [], [], [], 0, [], []⟩])
      (r := (.fin (.im (eB v1)) [] 0)) (obs := [(decide (p1 < 1)) = false, (decide (p1 < 1)) = false, (decide (p1 < 1)) = false, (decide (p1 < 1)) = false, Ct.Ok PX 157 ⟨[(.im (.sl 5 (p0.Kids.map eSTlv))), (.im (.fn 159 [(.pim 1 (eI .i64 p1))]))], [], 0, (.im (eB v1)), [], 0⟩, (decide (p1 < 1)) = false])
      (by kernel_rfl) ⟨(df h1), (df h1), (df h1), (df h1), (ih_f157_1 p0.Kids p1 v1 h2), (df h1), trivial⟩ (fun fn hfn => ⟨rfl, rfl, rfl⟩)

theorem f157_1_step (k : Nat) (ih_f125 : f125_P k) (ih_f157_1 : f157_1_P k) (ih_f167_1 : f167_1_P k) (ih_f167_1L0 : f167_1L0_P k) (ih_f159 : f159_P k) : f157_1_P (k + 1) := by
  intro p0 p1 r h
  rw [f157_1] at h
  obtain ⟨v1, h1, h⟩ := bnd h
  replace h := Option.some.inj h; subst h
  exact Ct.ofWalk hT hm F157 (by kernel_rfl) (n := 1000) (ds := [.r [], .r [(2, ⟨(.c false [] ⟨[], [], [], 0, (.im (eI .i64 v1)), [], 0, [], 0⟩), [], []⟩)], .k ⟨[], [], [], [], [], 0, [], []⟩])
    (r := (.fin (.im (eB (decide (v1 ≥ 0)))) [] 0)) (obs := [Ct.Ok PX 167 ⟨[(.im (.sl 5 (p0.map eSTlv))), (.im (.fn 159 [(.pim 1 (eI .i64 p1))]))], [], 0, (.im (eI .i64 v1)), [], 0⟩])
    (by kernel_rfl) ⟨(ih_f167_1 p0 p1 v1 h1), trivial⟩ (fun fn hfn => ⟨rfl, rfl, rfl⟩)

theorem f167_1_step (k : Nat) (ih_f125 : f125_P k) (ih_f157_1 : f157_1_P k) (ih_f167_1 : f167_1_P k) (ih_f167_1L0 : f167_1L0_P k) (ih_f159 : f159_P k) : f167_1_P (k + 1) := by
  intro p0 p1 r h
  rw [f167_1] at h
  exact Ct.ofWalk hT hm F167 (by kernel_rfl) (n := 1000) (ds := [.r [], .r [(1, ⟨(.h (.int (p0.length : Int))), [], []⟩)], .k ⟨[], [], [], [0, 1, 7, 8], [], 0, [], []⟩])
    (r := (.head cc167_0 [.blk 0, .seq cc167_1] (f167_1L0_S p0 p1 0))) (obs := [((p0.map eSTlv).length : Int) = (p0.length : Int)])
    (by kernel_rfl) ⟨(len_m eSTlv _), trivial⟩ (fun fn hfn => ih_f167_1L0 fn hfn p0 p1 0 _ h)

theorem f167_1L0_step (k : Nat) (ih_f125 : f125_P k) (ih_f157_1 : f157_1_P k) (ih_f167_1 : f167_1_P k) (ih_f167_1L0 : f167_1L0_P k) (ih_f159 : f159_P k) : f167_1L0_P (k + 1) := by
  intro fn hfn p0 p1 x2 r h
  rw [f167_1L0] at h
  by_cases h1 : x2 < (p0.length : Int)
  · rw [if_pos h1] at h
    obtain ⟨v1, h2, h⟩ := bnd h
    obtain ⟨v2, h3, h⟩ := bnd h
    by_cases h4 : v2 = true
    · rw [if_pos h4] at h
      replace h := Option.some.inj h; subst h
      exact LH.round hT hm hfn (n := 1000) (ds := [.r [], .b true, .r [], .r [(3, ⟨(.h (.iv (.st [(1, (eI .i64 v1.Class)), (1, (eI .i64 v1.Tag)), (1, (eB v1.Made)), (1, (.sl 1 (v1.Body.map (eI .u8)))), (1, (.sl 5 (v1.Kids.map eSTlv)))]))), [], []⟩), (5, ⟨(.c false [] ⟨[], [], [], 0, (.im (eB v2)), [], 0, [], 0⟩), [], []⟩)], .b true, .r [], .k ⟨[], [], [], [], [], 0, [], []⟩])
        (r := (.fin (.im (eI .i64 x2)) [] 0)) (obs := [(decide (x2 < (p0.length : Int))) = true, 0 ≤ x2, (p0.map eSTlv)[(x2).toNat]? = some (.st [(1, (eI .i64 v1.Class)), (1, (eI .i64 v1.Tag)), (1, (eB v1.Made)), (1, (.sl 1 (v1.Body.map (eI .u8)))), (1, (.sl 5 (v1.Kids.map eSTlv)))]), Ct.Ok PX 159 ⟨[(.im (.st [(1, (eI .i64 v1.Class)), (1, (eI .i64 v1.Tag)), (1, (eB v1.Made)), (1, (.sl 1 (v1.Body.map (eI .u8)))), (1, (.sl 5 (v1.Kids.map eSTlv)))])), (.im (.pim 1 (eI .i64 p1)))], [], 0, (.im (eB v2)), [], 0⟩, v2 = true])
        (by kernel_rfl) ⟨(dt h1), (rd_nn h2), (by rw [← eSTlv_eq v1]; exact (rd_map eSTlv h2)), (ih_f159 v1 p1 v2 h3), h4, trivial⟩ ⟨rfl, rfl, rfl⟩
    · rw [if_neg h4] at h
      exact LH.round hT hm hfn (n := 1000) (ds := [.r [], .b true, .r [], .r [(3, ⟨(.h (.iv (.st [(1, (eI .i64 v1.Class)), (1, (eI .i64 v1.Tag)), (1, (eB v1.Made)), (1, (.sl 1 (v1.Body.map (eI .u8)))), (1, (.sl 5 (v1.Kids.map eSTlv)))]))), [], []⟩), (5, ⟨(.c false [] ⟨[], [], [], 0, (.im (eB v2)), [], 0, [], 0⟩), [], []⟩)], .b false, .r [], .k ⟨[], [], [], [0, 1, 7, 8], [], 0, [], []⟩])
        (r := (.head cc167_0 [.blk 0, .seq cc167_1] (f167_1L0_S p0 p1 (IntKind.wrap .i64 (x2 + 1))))) (obs := [(decide (x2 < (p0.length : Int))) = true, 0 ≤ x2, (p0.map eSTlv)[(x2).toNat]? = some (.st [(1, (eI .i64 v1.Class)), (1, (eI .i64 v1.Tag)), (1, (eB v1.Made)), (1, (.sl 1 (v1.Body.map (eI .u8)))), (1, (.sl 5 (v1.Kids.map eSTlv)))]), Ct.Ok PX 159 ⟨[(.im (.st [(1, (eI .i64 v1.Class)), (1, (eI .i64 v1.Tag)), (1, (eB v1.Made)), (1, (.sl 1 (v1.Body.map (eI .u8)))), (1, (.sl 5 (v1.Kids.map eSTlv)))])), (.im (.pim 1 (eI .i64 p1)))], [], 0, (.im (eB v2)), [], 0⟩, v2 = false])
        (by kernel_rfl) ⟨(dt h1), (rd_nn h2), (by rw [← eSTlv_eq v1]; exact (rd_map eSTlv h2)), (ih_f159 v1 p1 v2 h3), (vf h4), trivial⟩ (ih_f167_1L0 fn hfn p0 p1 (IntKind.wrap .i64 (x2 + 1)) _ h)
  · rw [if_neg h1] at h
    replace h := Option.some.inj h; subst h
    exact LH.round hT hm hfn (n := 1000) (ds := [.r [], .b false, .r [], .k ⟨[], [], [], [], [], 0, [], []⟩])
      (r := (.fin (.im (eI .i64 (-1))) [] 0)) (obs := [(decide (x2 < (p0.length : Int))) = false])
      (by kernel_rfl) ⟨(df h1), trivial⟩ ⟨rfl, rfl, rfl⟩

theorem f159_step (k : Nat) (ih_f125 : f125_P k) (ih_f157_1 : f157_1_P k) (ih_f167_1 : f167_1_P k) (ih_f167_1L0 : f167_1L0_P k) (ih_f159 : f159_P k) : f159_P (k + 1) := by
  intro p0 p1 r h
  rw [f159] at h
  obtain ⟨v1, h1, h⟩ := bnd h
  replace h := Option.some.inj h; subst h
  exact Ct.ofWalk hT hm F159 (by kernel_rfl) (n := 1000) (ds := [.r [], .r [(3, ⟨(.c false [] ⟨[], [], [], 0, (.im (eB v1)), [], 0, [], 1⟩), [], []⟩)], .k ⟨[], [], [], [], [], 0, [], []⟩])
    (r := (.fin (.im (eB v1)) [] 0)) (obs := [Ct.Ok PX 125 ⟨[(.im (.st [(1, (eI .i64 p0.Class)), (1, (eI .i64 p0.Tag)), (1, (eB p0.Made)), (1, (.sl 1 (p0.Body.map (eI .u8)))), (1, (.sl 5 (p0.Kids.map eSTlv)))])), (.im (eI .i64 (IntKind.wrap .i64 (p1 - 1))))], [], 0, (.im (eB v1)), [], 0⟩])
    (by kernel_rfl) ⟨(ih_f125 p0 (IntKind.wrap .i64 (p1 - 1)) v1 h1), trivial⟩ (fun fn hfn => ⟨rfl, rfl, rfl⟩)

theorem f125_all : ∀ k, f125_P k ∧ f157_1_P k ∧ f167_1_P k ∧ f167_1L0_P k ∧ f159_P k
  | 0 => ⟨(by intro _ _ r h; rw [f125] at h; cases h), (by intro _ _ r h; rw [f157_1] at h; cases h), (by intro _ _ r h; rw [f167_1] at h; cases h), (by intro fn hfn _ _ _ r h; rw [f167_1L0] at h; cases h), (by intro _ _ r h; rw [f159] at h; cases h)⟩
  | k + 1 => ⟨f125_step k (f125_all k).1 (f125_all k).2.1 (f125_all k).2.2.1 (f125_all k).2.2.2.1 (f125_all k).2.2.2.2, f157_1_step k (f125_all k).1 (f125_all k).2.1 (f125_all k).2.2.1 (f125_all k).2.2.2.1 (f125_all k).2.2.2.2, f167_1_step k (f125_all k).1 (f125_all k).2.1 (f125_all k).2.2.1 (f125_all k).2.2.2.1 (f125_all k).2.2.2.2, f167_1L0_step k (f125_all k).1 (f125_all k).2.1 (f125_all k).2.2.1 (f125_all k).2.2.2.1 (f125_all k).2.2.2.2, f159_step k (f125_all k).1 (f125_all k).2.1 (f125_all k).2.2.1 (f125_all k).2.2.2.1 (f125_all k).2.2.2.2⟩

theorem f125_ok (k : Nat) : ∀ (p0 : STlv) (p1 : Int) (r : Bool), f125 k p0 p1 = some r → Ct.Ok PX 125 ⟨[(.im (.st [(1, (eI .i64 p0.Class)), (1, (eI .i64 p0.Tag)), (1, (eB p0.Made)), (1, (.sl 1 (p0.Body.map (eI .u8)))), (1, (.sl 5 (p0.Kids.map eSTlv)))])), (.im (eI .i64 p1))], [], 0, (.im (eB r)), [], 0⟩ := (f125_all k).1

theorem f157_1_ok (k : Nat) : ∀ (p0 : (List STlv)) (p1 : Int) (r : Bool), f157_1 k p0 p1 = some r → Ct.Ok PX 157 ⟨[(.im (.sl 5 (p0.map eSTlv))), (.im (.fn 159 [(.pim 1 (eI .i64 p1))]))], [], 0, (.im (eB r)), [], 0⟩ := (f125_all k).2.1

theorem f167_1_ok (k : Nat) : ∀ (p0 : (List STlv)) (p1 : Int) (r : Int), f167_1 k p0 p1 = some r → Ct.Ok PX 167 ⟨[(.im (.sl 5 (p0.map eSTlv))), (.im (.fn 159 [(.pim 1 (eI .i64 p1))]))], [], 0, (.im (eI .i64 r)), [], 0⟩ := (f125_all k).2.2.1

theorem f167_1L0_ok (fn : Func) (hfn : fn.results = ([.t 4].map Rv.var).toArray) (k : Nat) : ∀ (p0 : (List STlv)) (p1 : Int) (x2 : Int) (r : Int), f167_1L0 k p0 p1 x2 = some r → LH PX ⟨fn, 19, 0, (.im (eI .i64 r)), [], 0⟩ cc167_0 [.blk 0, .seq cc167_1] (f167_1L0_S p0 p1 x2) := (f125_all k).2.2.2.1 fn hfn

theorem f159_ok (k : Nat) : ∀ (p0 : STlv) (p1 : Int) (r : Bool), f159 k p0 p1 = some r → Ct.Ok PX 159 ⟨[(.im (.st [(1, (eI .i64 p0.Class)), (1, (eI .i64 p0.Tag)), (1, (eB p0.Made)), (1, (.sl 1 (p0.Body.map (eI .u8)))), (1, (.sl 5 (p0.Kids.map eSTlv)))])), (.im (.pim 1 (eI .i64 p1)))], [], 0, (.im (eB r)), [], 0⟩ := (f125_all k).2.2.2.2

def f127 (k : Nat) (p0 : Int) : Option (Int) :=
  if p0 < 128 then (
   some 2)
  else (
   if p0 < 256 then (
    some 3)
   else (
    if p0 < 65536 then (
     some 4)
    else (
     some 5)))

theorem f127_ok (k : Nat) : ∀ (p0 : Int) (r : Int), f127 k p0 = some r → Ct.Ok PX 127 ⟨[(.im (eI .i64 p0))], [], 0, (.im (eI .i64 r)), [], 0⟩ := by
  intro p0 r h
  unfold f127 at h
  by_cases h1 : p0 < 128
  · rw [if_pos h1] at h
    replace h := Option.some.inj h; subst h
    exact Ct.ofWalk hT hm F127 (by kernel_rfl) (n := 1000) (ds := [.r [], .r [], .b true, .r [], .k ⟨[], [], [], [], [], 0, [], []⟩])
      (r := (.fin (.im (eI .i64 2)) [] 0)) (obs := [(decide (p0 < 128)) = true])
      (by kernel_rfl) ⟨(dt h1), trivial⟩ (fun fn hfn => ⟨rfl, rfl, rfl⟩)
  · rw [if_neg h1] at h
    by_cases h2 : p0 < 256
    · rw [if_pos h2] at h
      replace h := Option.some.inj h; subst h
      exact Ct.ofWalk hT hm F127 (by kernel_rfl) (n := 1000) (ds := [.r [], .r [], .b false, .r [], .b true, .r [], .k ⟨[], [], [], [], [], 0, [], []⟩])
        (r := (.fin (.im (eI .i64 3)) [] 0)) (obs := [(decide (p0 < 128)) = false, (decide (p0 < 256)) = true])
        (by kernel_rfl) ⟨(df h1), (dt h2), trivial⟩ (fun fn hfn => ⟨rfl, rfl, rfl⟩)
    · rw [if_neg h2] at h
      by_cases h3 : p0 < 65536
      · rw [if_pos h3] at h
        replace h := Option.some.inj h; subst h
        exact Ct.ofWalk hT hm F127 (by kernel_rfl) (n := 1000) (ds := [.r [], .r [], .b false, .r [], .b false, .r [], .b true, .r [], .k ⟨[], [], [], [], [], 0, [], []⟩])
          (r := (.fin (.im (eI .i64 4)) [] 0)) (obs := [(decide (p0 < 128)) = false, (decide (p0 < 256)) = false, (decide (p0 < 65536)) = true])
          (by kernel_rfl) ⟨(df h1), (df h2), (dt h3), trivial⟩ (fun fn hfn => ⟨rfl, rfl, rfl⟩)
      · rw [if_neg h3] at h
        replace h := Option.some.inj h; subst h
        exact Ct.ofWalk hT hm F127 (by kernel_rfl) (n := 1000) (ds := [.r [], .r [], .b false, .r [], .b false, .r [], .b false, .r [], .k ⟨[], [], [], [], [], 0, [], []⟩])
          (r := (.fin (.im (eI .i64 5)) [] 0)) (obs := [(decide (p0 < 128)) = false, (decide (p0 < 256)) = false, (decide (p0 < 65536)) = false])
          (by kernel_rfl) ⟨(df h1), (df h2), (df h3), trivial⟩ (fun fn hfn => ⟨rfl, rfl, rfl⟩)
end Go.Proofs.Tryd.E
end

section
namespace Go.Proofs.Tryd.E
open Go Go.Eng
set_option maxRecDepth 100000
set_option linter.unusedVariables false
def f126L0_S (p0 : STlv) (x0 : Int) (x1 : Int) : S := ⟨[(1, (.ref 0 [])), (3, (.im (eI .i64 x0))), (4, (.im (eI .i64 x1)))], [(0, (.box false 5 (.im (.st [(1, (eI .i64 p0.Class)), (1, (eI .i64 p0.Tag)), (1, (eB p0.Made)), (1, (.sl 1 (p0.Body.map (eI .u8)))), (1, (.sl 5 (p0.Kids.map eSTlv)))]))))], 1⟩

mutual
def f126 : Nat → STlv → Option (Int)
  | 0, _ => none
  | k + 1, p0 =>
    f126L0 k p0 (p0.Body.length : Int) 0
def f126L0 : Nat → STlv → Int → Int → Option (Int)
  | 0, _, _, _ => none
  | k + 1, p0, x0, x1 =>
    if x1 < (p0.Kids.length : Int) then (
     if x0 ≤ 1048576 then (
      (rd p0.Kids x1).bind fun v1 =>
      (f126 k v1).bind fun v2 =>
      f126L0 k p0 (IntKind.wrap .i64 (x0 + v2)) (IntKind.wrap .i64 (x1 + 1)))
     else (
      (f127 k x0).bind fun v1 =>
      some (IntKind.wrap .i64 (x0 + v1))))
    else (
     (f127 k x0).bind fun v1 =>
     some (IntKind.wrap .i64 (x0 + v1)))
end

def f126_P (k : Nat) : Prop := ∀ (p0 : STlv) (r : Int), f126 k p0 = some r → Ct.Ok PX 126 ⟨[(.im (.st [(1, (eI .i64 p0.Class)), (1, (eI .i64 p0.Tag)), (1, (eB p0.Made)), (1, (.sl 1 (p0.Body.map (eI .u8)))), (1, (.sl 5 (p0.Kids.map eSTlv)))]))], [], 0, (.im (eI .i64 r)), [], 0⟩

def f126L0_P (k : Nat) : Prop := ∀ (fn : Func) (_ : fn.results = ([.t 2].map Rv.var).toArray), ∀ (p0 : STlv) (x0 : Int) (x1 : Int) (r : Int), f126L0 k p0 x0 x1 = some r → LH PX ⟨fn, 31, 0, (.im (eI .i64 r)), [], 0⟩ cc126_0 [.blk 0, .seq cc126_1] (f126L0_S p0 x0 x1)

theorem f126_step (k : Nat) (ih_f126 : f126_P k) (ih_f126L0 : f126L0_P k) : f126_P (k + 1) := by
  intro p0 r h
  rw [f126] at h
  exact Ct.ofWalk hT hm F126 (by kernel_rfl) (n := 1000) (ds := [.r [], .r [(2, ⟨(.h (.int (p0.Body.length : Int))), [], []⟩)], .r [], .k ⟨[], [], [], [1, 3, 4], [(0, 0)], 1, [], []⟩])
    (r := (.head cc126_0 [.blk 0, .seq cc126_1] (f126L0_S p0 (p0.Body.length : Int) 0))) (obs := [((p0.Body.map (eI .u8)).length : Int) = (p0.Body.length : Int)])
    (by kernel_rfl) ⟨(len_m (eI .u8) _), trivial⟩ (fun fn hfn => ih_f126L0 fn hfn p0 (p0.Body.length : Int) 0 _ h)

theorem f126L0_step (k : Nat) (ih_f126 : f126_P k) (ih_f126L0 : f126L0_P k) : f126L0_P (k + 1) := by
  intro fn hfn p0 x0 x1 r h
  rw [f126L0] at h
  by_cases h1 : x1 < (p0.Kids.length : Int)
  · rw [if_pos h1] at h
    by_cases h2 : x0 ≤ 1048576
    · rw [if_pos h2] at h
      obtain ⟨v1, h3, h⟩ := bnd h
      obtain ⟨v2, h4, h⟩ := bnd h
      exact LH.round hT hm hfn (n := 1000) (ds := [.r [(3, ⟨(.h (.int (p0.Kids.length : Int))), [], []⟩), (6, ⟨(.h (.gt .no)), [], []⟩), (7, ⟨(.h (.gt .no)), [], []⟩), (8, ⟨(.h (.gt .no)), [], []⟩)], .b true, .r [(4, ⟨(.h (.iv (.st [(1, (eI .i64 v1.Class)), (1, (eI .i64 v1.Tag)), (1, (eB v1.Made)), (1, (.sl 1 (v1.Body.map (eI .u8)))), (1, (.sl 5 (v1.Kids.map eSTlv)))]))), [], []⟩), (6, ⟨(.c false [] ⟨[], [], [], 0, (.im (eI .i64 v2)), [], 0, [], 1⟩), [], []⟩)], .r [], .k ⟨[], [], [], [1, 3, 4], [(0, 0)], 1, [], []⟩])
        (r := (.head cc126_0 [.blk 0, .seq cc126_1] (f126L0_S p0 (IntKind.wrap .i64 (x0 + v2)) (IntKind.wrap .i64 (x1 + 1))))) (obs := [((p0.Kids.map eSTlv).length : Int) = (p0.Kids.length : Int), (decide (x1 < (p0.Kids.length : Int))) = true, (decide (x1 < (p0.Kids.length : Int))) = true, (decide (x1 < (p0.Kids.length : Int))) = true, (decide (x0 ≤ 1048576)) = true, 0 ≤ x1, (p0.Kids.map eSTlv)[(x1).toNat]? = some (.st [(1, (eI .i64 v1.Class)), (1, (eI .i64 v1.Tag)), (1, (eB v1.Made)), (1, (.sl 1 (v1.Body.map (eI .u8)))), (1, (.sl 5 (v1.Kids.map eSTlv)))]), Ct.Ok PX 126 ⟨[(.im (.st [(1, (eI .i64 v1.Class)), (1, (eI .i64 v1.Tag)), (1, (eB v1.Made)), (1, (.sl 1 (v1.Body.map (eI .u8)))), (1, (.sl 5 (v1.Kids.map eSTlv)))]))], [], 0, (.im (eI .i64 v2)), [], 0⟩])
        (by kernel_rfl) ⟨(len_m eSTlv _), (dt h1), (dt h1), (dt h1), (dt h2), (rd_nn h3), (by rw [← eSTlv_eq v1]; exact (rd_map eSTlv h3)), (ih_f126 v1 v2 h4), trivial⟩ (ih_f126L0 fn hfn p0 (IntKind.wrap .i64 (x0 + v2)) (IntKind.wrap .i64 (x1 + 1)) _ h)
    · rw [if_neg h2] at h
      obtain ⟨v1, h3, h⟩ := bnd h
      replace h := Option.some.inj h; subst h
      exact LH.round hT hm hfn (n := 1000) (ds := [.r [(3, ⟨(.h (.int (p0.Kids.length : Int))), [], []⟩), (6, ⟨(.h (.gt .no)), [], []⟩), (7, ⟨(.h (.gt .no)), [], []⟩), (8, ⟨(.h (.gt .no)), [], []⟩)], .b false, .r [(2, ⟨(.c false [] ⟨[], [], [], 0, (.im (eI .i64 v1)), [], 0, [], 1⟩), [], []⟩)], .k ⟨[], [], [], [], [], 0, [], []⟩])
        (r := (.fin (.im (eI .i64 (IntKind.wrap .i64 (x0 + v1)))) [] 0)) (obs := [((p0.Kids.map eSTlv).length : Int) = (p0.Kids.length : Int), (decide (x1 < (p0.Kids.length : Int))) = true, (decide (x1 < (p0.Kids.length : Int))) = true, (decide (x1 < (p0.Kids.length : Int))) = true, (decide (x0 ≤ 1048576)) = false, Ct.Ok PX 127 ⟨[(.im (eI .i64 x0))], [], 0, (.im (eI .i64 v1)), [], 0⟩])
        (by kernel_rfl) ⟨(len_m eSTlv _), (dt h1), (dt h1), (dt h1), (df h2), (f127_ok k x0 v1 h3), trivial⟩ ⟨rfl, rfl, rfl⟩
  · rw [if_neg h1] at h
    obtain ⟨v1, h2, h⟩ := bnd h
    replace h := Option.some.inj h; subst h
    exact LH.round hT hm hfn (n := 1000) (ds := [.r [(3, ⟨(.h (.int (p0.Kids.length : Int))), [], []⟩), (6, ⟨(.h .gf), [], []⟩), (7, ⟨(.h .gf), [], []⟩), (8, ⟨(.h .gf), [], []⟩)], .bc false, .r [(2, ⟨(.c false [] ⟨[], [], [], 0, (.im (eI .i64 v1)), [], 0, [], 1⟩), [], []⟩)], .k ⟨[], [], [], [], [], 0, [], []⟩])
      (r := (.fin (.im (eI .i64 (IntKind.wrap .i64 (x0 + v1)))) [] 0)) (obs := [((p0.Kids.map eSTlv).length : Int) = (p0.Kids.length : Int), (decide (x1 < (p0.Kids.length : Int))) = !true, (decide (x1 < (p0.Kids.length : Int))) = !true, (decide (x1 < (p0.Kids.length : Int))) = false, Ct.Ok PX 127 ⟨[(.im (eI .i64 x0))], [], 0, (.im (eI .i64 v1)), [], 0⟩])
      (by kernel_rfl) ⟨(len_m eSTlv _), (df h1), (df h1), (df h1), (f127_ok k x0 v1 h2), trivial⟩ ⟨rfl, rfl, rfl⟩

theorem f126_all : ∀ k, f126_P k ∧ f126L0_P k
  | 0 => ⟨(by intro _ r h; rw [f126] at h; cases h), (by intro fn hfn _ _ _ r h; rw [f126L0] at h; cases h)⟩
  | k + 1 => ⟨f126_step k (f126_all k).1 (f126_all k).2, f126L0_step k (f126_all k).1 (f126_all k).2⟩

theorem f126_ok (k : Nat) : ∀ (p0 : STlv) (r : Int), f126 k p0 = some r → Ct.Ok PX 126 ⟨[(.im (.st [(1, (eI .i64 p0.Class)), (1, (eI .i64 p0.Tag)), (1, (eB p0.Made)), (1, (.sl 1 (p0.Body.map (eI .u8)))), (1, (.sl 5 (p0.Kids.map eSTlv)))]))], [], 0, (.im (eI .i64 r)), [], 0⟩ := (f126_all k).1

theorem f126L0_ok (fn : Func) (hfn : fn.results = ([.t 2].map Rv.var).toArray) (k : Nat) : ∀ (p0 : STlv) (x0 : Int) (x1 : Int) (r : Int), f126L0 k p0 x0 x1 = some r → LH PX ⟨fn, 31, 0, (.im (eI .i64 r)), [], 0⟩ cc126_0 [.blk 0, .seq cc126_1] (f126L0_S p0 x0 x1) := (f126_all k).2 fn hfn

def f80 (k : Nat) (p0 : STlv) : Option (Int × Er) :=
  (f124 k p0).bind fun v1 =>
  if v1 = true then (
   (f125 k p0 16).bind fun v2 =>
   if v2 = true then (
    some (0, (Er.code 9)))
   else (
    (f126 k p0).bind fun v3 =>
    if v3 > 1048576 then (
     some (0, (Er.code 2)))
    else (
     some (v3, Er.nil))))
  else (
   some (0, (Er.code 1)))

theorem f80_ok (k : Nat) : ∀ (p0 : STlv) (r : Int × Er), f80 k p0 = some r → Ct.Ok PX 80 ⟨[(.im (.st [(1, (eI .i64 p0.Class)), (1, (eI .i64 p0.Tag)), (1, (eB p0.Made)), (1, (.sl 1 (p0.Body.map (eI .u8)))), (1, (.sl 5 (p0.Kids.map eSTlv)))]))], [], 0, (.tup [(.im (eI .i64 r.1)), (.im (eEr r.2))]), [], 0⟩ := by
  intro p0 r h
  unfold f80 at h
  obtain ⟨v1, h1, h⟩ := bnd h
  by_cases h2 : v1 = true
  · rw [if_pos h2] at h
    obtain ⟨v2, h3, h⟩ := bnd h
    by_cases h4 : v2 = true
    · rw [if_pos h4] at h
      replace h := Option.some.inj h; subst h
      exact Ct.ofWalk hT hm F80 (by kernel_rfl) (n := 1000) (ds := [.r [], .r [(1, ⟨(.c false [] ⟨[], [], [], 0, (.im (eB v1)), [], 0, [], 1⟩), [], []⟩)], .b false, .r [(1, ⟨(.c false [] ⟨[], [], [], 0, (.im (eB v2)), [], 0, [], 1⟩), [], []⟩)], .b true, .r [], .k ⟨[], [], [], [], [], 0, [], []⟩])
        (r := (.fin (.tup [(.im (eI .i64 0)), (.im (.ifc 40 (eI .i64 9)))]) [] 0)) (obs := [Ct.Ok PX 124 ⟨[(.im (.st [(1, (eI .i64 p0.Class)), (1, (eI .i64 p0.Tag)), (1, (eB p0.Made)), (1, (.sl 1 (p0.Body.map (eI .u8)))), (1, (.sl 5 (p0.Kids.map eSTlv)))]))], [], 0, (.im (eB v1)), [], 0⟩, (!v1) = false, Ct.Ok PX 125 ⟨[(.im (.st [(1, (eI .i64 p0.Class)), (1, (eI .i64 p0.Tag)), (1, (eB p0.Made)), (1, (.sl 1 (p0.Body.map (eI .u8)))), (1, (.sl 5 (p0.Kids.map eSTlv)))])), (.im (eI .i64 16))], [], 0, (.im (eB v2)), [], 0⟩, v2 = true])
        (by kernel_rfl) ⟨(f124_ok k p0 v1 h1), (not_f h2), (f125_ok k p0 16 v2 h3), h4, trivial⟩ (fun fn hfn => ⟨rfl, rfl, rfl⟩)
    · rw [if_neg h4] at h
      obtain ⟨v3, h5, h⟩ := bnd h
      by_cases h6 : v3 > 1048576
      · rw [if_pos h6] at h
        replace h := Option.some.inj h; subst h
        exact Ct.ofWalk hT hm F80 (by kernel_rfl) (n := 1000) (ds := [.r [], .r [(1, ⟨(.c false [] ⟨[], [], [], 0, (.im (eB v1)), [], 0, [], 1⟩), [], []⟩)], .b false, .r [(1, ⟨(.c false [] ⟨[], [], [], 0, (.im (eB v2)), [], 0, [], 1⟩), [], []⟩)], .b false, .r [(1, ⟨(.c false [] ⟨[], [], [], 0, (.im (eI .i64 v3)), [], 0, [], 1⟩), [], []⟩)], .r [], .b true, .r [], .k ⟨[], [], [], [], [], 0, [], []⟩])
          (r := (.fin (.tup [(.im (eI .i64 0)), (.im (.ifc 40 (eI .i64 2)))]) [] 0)) (obs := [Ct.Ok PX 124 ⟨[(.im (.st [(1, (eI .i64 p0.Class)), (1, (eI .i64 p0.Tag)), (1, (eB p0.Made)), (1, (.sl 1 (p0.Body.map (eI .u8)))), (1, (.sl 5 (p0.Kids.map eSTlv)))]))], [], 0, (.im (eB v1)), [], 0⟩, (!v1) = false, Ct.Ok PX 125 ⟨[(.im (.st [(1, (eI .i64 p0.Class)), (1, (eI .i64 p0.Tag)), (1, (eB p0.Made)), (1, (.sl 1 (p0.Body.map (eI .u8)))), (1, (.sl 5 (p0.Kids.map eSTlv)))])), (.im (eI .i64 16))], [], 0, (.im (eB v2)), [], 0⟩, v2 = false, Ct.Ok PX 126 ⟨[(.im (.st [(1, (eI .i64 p0.Class)), (1, (eI .i64 p0.Tag)), (1, (eB p0.Made)), (1, (.sl 1 (p0.Body.map (eI .u8)))), (1, (.sl 5 (p0.Kids.map eSTlv)))]))], [], 0, (.im (eI .i64 v3)), [], 0⟩, (decide (v3 > 1048576)) = true])
          (by kernel_rfl) ⟨(f124_ok k p0 v1 h1), (not_f h2), (f125_ok k p0 16 v2 h3), (vf h4), (f126_ok k p0 v3 h5), (dt h6), trivial⟩ (fun fn hfn => ⟨rfl, rfl, rfl⟩)
      · rw [if_neg h6] at h
        replace h := Option.some.inj h; subst h
        exact Ct.ofWalk hT hm F80 (by kernel_rfl) (n := 1000) (ds := [.r [], .r [(1, ⟨(.c false [] ⟨[], [], [], 0, (.im (eB v1)), [], 0, [], 1⟩), [], []⟩)], .b false, .r [(1, ⟨(.c false [] ⟨[], [], [], 0, (.im (eB v2)), [], 0, [], 1⟩), [], []⟩)], .b false, .r [(1, ⟨(.c false [] ⟨[], [], [], 0, (.im (eI .i64 v3)), [], 0, [], 1⟩), [], []⟩)], .r [], .b false, .r [], .k ⟨[], [], [], [], [], 0, [], []⟩])
          (r := (.fin (.tup [(.im (eI .i64 v3)), (.im (.v .nilIface))]) [] 0)) (obs := [Ct.Ok PX 124 ⟨[(.im (.st [(1, (eI .i64 p0.Class)), (1, (eI .i64 p0.Tag)), (1, (eB p0.Made)), (1, (.sl 1 (p0.Body.map (eI .u8)))), (1, (.sl 5 (p0.Kids.map eSTlv)))]))], [], 0, (.im (eB v1)), [], 0⟩, (!v1) = false, Ct.Ok PX 125 ⟨[(.im (.st [(1, (eI .i64 p0.Class)), (1, (eI .i64 p0.Tag)), (1, (eB p0.Made)), (1, (.sl 1 (p0.Body.map (eI .u8)))), (1, (.sl 5 (p0.Kids.map eSTlv)))])), (.im (eI .i64 16))], [], 0, (.im (eB v2)), [], 0⟩, v2 = false, Ct.Ok PX 126 ⟨[(.im (.st [(1, (eI .i64 p0.Class)), (1, (eI .i64 p0.Tag)), (1, (eB p0.Made)), (1, (.sl 1 (p0.Body.map (eI .u8)))), (1, (.sl 5 (p0.Kids.map eSTlv)))]))], [], 0, (.im (eI .i64 v3)), [], 0⟩, (decide (v3 > 1048576)) = false])
          (by kernel_rfl) ⟨(f124_ok k p0 v1 h1), (not_f h2), (f125_ok k p0 16 v2 h3), (vf h4), (f126_ok k p0 v3 h5), (df h6), trivial⟩ (fun fn hfn => ⟨rfl, rfl, rfl⟩)
  · rw [if_neg h2] at h
    replace h := Option.some.inj h; subst h
    exact Ct.ofWalk hT hm F80 (by kernel_rfl) (n := 1000) (ds := [.r [], .r [(1, ⟨(.c false [] ⟨[], [], [], 0, (.im (eB v1)), [], 0, [], 1⟩), [], []⟩)], .b true, .r [], .k ⟨[], [], [], [], [], 0, [], []⟩])
      (r := (.fin (.tup [(.im (eI .i64 0)), (.im (.ifc 40 (eI .i64 1)))]) [] 0)) (obs := [Ct.Ok PX 124 ⟨[(.im (.st [(1, (eI .i64 p0.Class)), (1, (eI .i64 p0.Tag)), (1, (eB p0.Made)), (1, (.sl 1 (p0.Body.map (eI .u8)))), (1, (.sl 5 (p0.Kids.map eSTlv)))]))], [], 0, (.im (eB v1)), [], 0⟩, (!v1) = true])
      (by kernel_rfl) ⟨(f124_ok k p0 v1 h1), (not_t (vf h2)), trivial⟩ (fun fn hfn => ⟨rfl, rfl, rfl⟩)
end Go.Proofs.Tryd.E
end

section
namespace Go.Proofs.Tryd.E
open Go Go.Eng
set_option maxRecDepth 100000
set_option linter.unusedVariables false
def f81L0_S (p0 : (List Int)) (p1 : STlv) (x1 : Int) (x2 : Int) (x5 : Int) : S := ⟨[(0, (.ownF 1 0)), (3, (.ref 1 [])), (5, (.im (eI .u8 x1))), (6, (.im (eI .i64 x2))), (28, (.im (.sl 5 (p1.Kids.map eSTlv)))), (29, (.im (eI .i64 (p1.Kids.length : Int)))), (30, (.im (eI .i64 x5)))], [(0, (.row 5 1 (p0.map (eI .u8)) 0)), (1, (.box false 5 (.im (.st [(1, (eI .i64 p1.Class)), (1, (eI .i64 p1.Tag)), (1, (eB p1.Made)), (1, (.sl 1 (p1.Body.map (eI .u8)))), (1, (.sl 5 (p1.Kids.map eSTlv)))]))))], 2⟩

def f81L1_S (p0 : (List Int)) (p1 : STlv) (x0 : (List Int)) (x3 : Int) : S := ⟨[(0, (.ownF 1 1)), (78, (.im (.sl 5 (p1.Kids.map eSTlv)))), (79, (.im (eI .i64 (p1.Kids.length : Int)))), (80, (.im (eI .i64 x3)))], [(1, (.row 5 1 (x0.map (eI .u8)) 0))], 2⟩

def f81L2_S (p0 : (List Int)) (p1 : STlv) (x0 : (List Int)) (x1 : Int) (x2 : Int) : S := ⟨[(0, (.ownF 1 1)), (3, (.ref 2 [])), (6, (.im (eI .i64 x1))), (10, (.im (eI .i64 x2)))], [(1, (.row 5 1 (x0.map (eI .u8)) 0)), (2, (.box false 5 (.im (.st [(1, (eI .i64 p1.Class)), (1, (eI .i64 p1.Tag)), (1, (eB p1.Made)), (1, (.sl 1 (p1.Body.map (eI .u8)))), (1, (.sl 5 (p1.Kids.map eSTlv)))]))))], 3⟩

mutual
def f81 : Nat → (List Int) → STlv → Option ((List Int))
  | 0, _, _ => none
  | k + 1, p0, p1 =>
    if p1.Made = true then (
     f81L0 k p0 p1 (bitI .or .u8 (IntKind.wrap .u8 (bitI .or .i64 (shlI .i64 p1.Class 6) p1.Tag)) 32) (p1.Body.length : Int) 0)
    else (
     f81L0 k p0 p1 (IntKind.wrap .u8 (bitI .or .i64 (shlI .i64 p1.Class 6) p1.Tag)) (p1.Body.length : Int) 0)
def f81L0 : Nat → (List Int) → STlv → Int → Int → Int → Option ((List Int))
  | 0, _, _, _, _, _ => none
  | k + 1, p0, p1, x1, x2, x5 =>
    if x5 < (p1.Kids.length : Int) then (
     (rd p1.Kids x5).bind fun v1 =>
     (f126 k v1).bind fun v2 =>
     f81L0 k p0 p1 x1 (IntKind.wrap .i64 (x2 + v2)) (IntKind.wrap .i64 (x5 + 1)))
    else (
     (ap 1 p0 [x1]).bind fun v1 =>
     if x2 < 128 then (
      (ap 1 v1 [(IntKind.wrap .u8 x2)]).bind fun v2 =>
      (ap 1 v2 p1.Body).bind fun v3 =>
      f81L1 k p0 p1 v3 0)
     else (
      (f127 k x2).bind fun v2 =>
      (ap 1 v1 [(IntKind.wrap .u8 (IntKind.wrap .i64 (128 + (IntKind.wrap .i64 (v2 - 2)))))]).bind fun v3 =>
      f81L2 k p0 p1 v3 x2 (IntKind.wrap .i64 ((IntKind.wrap .i64 (v2 - 2)) - 1))))
def f81L1 : Nat → (List Int) → STlv → (List Int) → Int → Option ((List Int))
  | 0, _, _, _, _ => none
  | k + 1, p0, p1, x0, x3 =>
    if x3 < (p1.Kids.length : Int) then (
     (rd p1.Kids x3).bind fun v1 =>
     (f81 k x0 v1).bind fun v2 =>
     f81L1 k p0 p1 v2 (IntKind.wrap .i64 (x3 + 1)))
    else (
     some x0)
def f81L2 : Nat → (List Int) → STlv → (List Int) → Int → Int → Option ((List Int))
  | 0, _, _, _, _, _ => none
  | k + 1, p0, p1, x0, x1, x2 =>
    if x2 ≥ 0 then (
     (up (0 ≤ (IntKind.wrap .i64 (8 * x2)))).bind fun _ =>
     (ap 1 x0 [(IntKind.wrap .u8 (shrI .i64 x1 (IntKind.wrap .i64 (8 * x2))))]).bind fun v1 =>
     f81L2 k p0 p1 v1 x1 (IntKind.wrap .i64 (x2 - 1)))
    else (
     (ap 1 x0 p1.Body).bind fun v1 =>
     f81L1 k p0 p1 v1 0)
end

def f81_P (k : Nat) : Prop := ∀ (p0 : (List Int)) (p1 : STlv) (r : (List Int)), f81 k p0 p1 = some r → Ct.Ok PX 81 ⟨[(.ownF 1 0), (.im (.st [(1, (eI .i64 p1.Class)), (1, (eI .i64 p1.Tag)), (1, (eB p1.Made)), (1, (.sl 1 (p1.Body.map (eI .u8)))), (1, (.sl 5 (p1.Kids.map eSTlv)))]))], [(0, (.row 5 1 (p0.map (eI .u8)) 0))], 1, (.ownF 1 1), [(1, (.row 5 1 (r.map (eI .u8)) 0))], 2⟩

def f81L0_P (k : Nat) : Prop := ∀ (fn : Func) (_ : fn.results = ([.t 4].map Rv.var).toArray), ∀ (p0 : (List Int)) (p1 : STlv) (x1 : Int) (x2 : Int) (x5 : Int) (r : (List Int)), f81L0 k p0 p1 x1 x2 x5 = some r → LH PX ⟨fn, 89, 1, (.ownF 1 1), [(1, (.row 5 1 (r.map (eI .u8)) 0))], 2⟩ cc81_0 [.blk 0, .seq cc81_1] (f81L0_S p0 p1 x1 x2 x5)

def f81L1_P (k : Nat) : Prop := ∀ (fn : Func) (_ : fn.results = ([.t 4].map Rv.var).toArray), ∀ (p0 : (List Int)) (p1 : STlv) (x0 : (List Int)) (x3 : Int) (r : (List Int)), f81L1 k p0 p1 x0 x3 = some r → LH PX ⟨fn, 89, 1, (.ownF 1 1), [(1, (.row 5 1 (r.map (eI .u8)) 0))], 2⟩ cc81_4 [.blk 4, .seq cc81_5] (f81L1_S p0 p1 x0 x3)

def f81L2_P (k : Nat) : Prop := ∀ (fn : Func) (_ : fn.results = ([.t 4].map Rv.var).toArray), ∀ (p0 : (List Int)) (p1 : STlv) (x0 : (List Int)) (x1 : Int) (x2 : Int) (r : (List Int)), f81L2 k p0 p1 x0 x1 x2 = some r → LH PX ⟨fn, 89, 1, (.ownF 1 1), [(1, (.row 5 1 (r.map (eI .u8)) 0))], 2⟩ cc81_2 [.blk 2, .seq cc81_3] (f81L2_S p0 p1 x0 x1 x2)

theorem f81_step (k : Nat) (ih_f81 : f81_P k) (ih_f81L0 : f81L0_P k) (ih_f81L1 : f81L1_P k) (ih_f81L2 : f81L2_P k) : f81_P (k + 1) := by
  intro p0 p1 r h
  rw [f81] at h
  by_cases h1 : p1.Made = true
  · rw [if_pos h1] at h
    exact Ct.ofWalk hT hm F81 (by kernel_rfl) (n := 1000) (ds := [.r [], .r [], .r [], .b true, .r [], .r [(2, ⟨(.h (.int (p1.Body.length : Int))), [], []⟩)], .r [(2, ⟨(.h (.int (p1.Kids.length : Int))), [], []⟩)], .k ⟨[], [], [], [0, 3, 5, 6, 28, 29, 30], [(0, 0), (1, 1)], 2, [], []⟩])
      (r := (.head cc81_0 [.blk 0, .seq cc81_1] (f81L0_S p0 p1 (bitI .or .u8 (IntKind.wrap .u8 (bitI .or .i64 (shlI .i64 p1.Class 6) p1.Tag)) 32) (p1.Body.length : Int) 0))) (obs := [p1.Made = true, ((p1.Body.map (eI .u8)).length : Int) = (p1.Body.length : Int), ((p1.Kids.map eSTlv).length : Int) = (p1.Kids.length : Int)])
      (by kernel_rfl) ⟨h1, (len_m (eI .u8) _), (len_m eSTlv _), trivial⟩ (fun fn hfn => ih_f81L0 fn hfn p0 p1 (bitI .or .u8 (IntKind.wrap .u8 (bitI .or .i64 (shlI .i64 p1.Class 6) p1.Tag)) 32) (p1.Body.length : Int) 0 _ h)
  · rw [if_neg h1] at h
    exact Ct.ofWalk hT hm F81 (by kernel_rfl) (n := 1000) (ds := [.r [], .r [], .r [], .b false, .r [(2, ⟨(.h (.int (p1.Body.length : Int))), [], []⟩)], .r [(2, ⟨(.h (.int (p1.Kids.length : Int))), [], []⟩)], .k ⟨[], [], [], [0, 3, 5, 6, 28, 29, 30], [(0, 0), (1, 1)], 2, [], []⟩])
      (r := (.head cc81_0 [.blk 0, .seq cc81_1] (f81L0_S p0 p1 (IntKind.wrap .u8 (bitI .or .i64 (shlI .i64 p1.Class 6) p1.Tag)) (p1.Body.length : Int) 0))) (obs := [p1.Made = false, ((p1.Body.map (eI .u8)).length : Int) = (p1.Body.length : Int), ((p1.Kids.map eSTlv).length : Int) = (p1.Kids.length : Int)])
      (by kernel_rfl) ⟨(vf h1), (len_m (eI .u8) _), (len_m eSTlv _), trivial⟩ (fun fn hfn => ih_f81L0 fn hfn p0 p1 (IntKind.wrap .u8 (bitI .or .i64 (shlI .i64 p1.Class 6) p1.Tag)) (p1.Body.length : Int) 0 _ h)

theorem f81L0_step (k : Nat) (ih_f81 : f81_P k) (ih_f81L0 : f81L0_P k) (ih_f81L1 : f81L1_P k) (ih_f81L2 : f81L2_P k) : f81L0_P (k + 1) := by
  intro fn hfn p0 p1 x1 x2 x5 r h
  rw [f81L0] at h
  by_cases h1 : x5 < (p1.Kids.length : Int)
  · rw [if_pos h1] at h
    obtain ⟨v1, h2, h⟩ := bnd h
    obtain ⟨v2, h3, h⟩ := bnd h
    exact LH.round hT hm hfn (n := 1000) (ds := [.r [], .b true, .r [(0, ⟨(.h (.iv (.st [(1, (eI .i64 v1.Class)), (1, (eI .i64 v1.Tag)), (1, (eB v1.Made)), (1, (.sl 1 (v1.Body.map (eI .u8)))), (1, (.sl 5 (v1.Kids.map eSTlv)))]))), [], []⟩)], .r [(2, ⟨(.c false [] ⟨[], [], [], 0, (.im (eI .i64 v2)), [], 0, [], 3⟩), [], []⟩)], .r [], .k ⟨[], [], [], [0, 3, 5, 6, 28, 29, 30], [(0, 0), (1, 1)], 2, [], []⟩])
      (r := (.head cc81_0 [.blk 0, .seq cc81_1] (f81L0_S p0 p1 x1 (IntKind.wrap .i64 (x2 + v2)) (IntKind.wrap .i64 (x5 + 1))))) (obs := [(decide (x5 < (p1.Kids.length : Int))) = true, 0 ≤ x5, (p1.Kids.map eSTlv)[(x5).toNat]? = some (.st [(1, (eI .i64 v1.Class)), (1, (eI .i64 v1.Tag)), (1, (eB v1.Made)), (1, (.sl 1 (v1.Body.map (eI .u8)))), (1, (.sl 5 (v1.Kids.map eSTlv)))]), Ct.Ok PX 126 ⟨[(.im (.st [(1, (eI .i64 v1.Class)), (1, (eI .i64 v1.Tag)), (1, (eB v1.Made)), (1, (.sl 1 (v1.Body.map (eI .u8)))), (1, (.sl 5 (v1.Kids.map eSTlv)))]))], [], 0, (.im (eI .i64 v2)), [], 0⟩])
      (by kernel_rfl) ⟨(dt h1), (rd_nn h2), (by rw [← eSTlv_eq v1]; exact (rd_map eSTlv h2)), (f126_ok k v1 v2 h3), trivial⟩ (ih_f81L0 fn hfn p0 p1 x1 (IntKind.wrap .i64 (x2 + v2)) (IntKind.wrap .i64 (x5 + 1)) _ h)
  · rw [if_neg h1] at h
    obtain ⟨v1, h2, h⟩ := bnd h
    by_cases h3 : x2 < 128
    · rw [if_pos h3] at h
      obtain ⟨v2, h4, h⟩ := bnd h
      obtain ⟨v3, h5, h⟩ := bnd h
      exact LH.round hT hm hfn (n := 1000) (ds := [.r [], .b false, .r [(3, ⟨(.h (.ivs (v1.map (eI .u8)))), [], []⟩)], .r [], .b true, .r [(4, ⟨(.h (.ivs (v2.map (eI .u8)))), [], []⟩)], .r [(3, ⟨(.h (.ivs (v3.map (eI .u8)))), [], []⟩)], .r [(2, ⟨(.h (.int (p1.Kids.length : Int))), [], []⟩)], .k ⟨[], [], [], [0, 78, 79, 80], [(1, 6)], 2, [], []⟩])
        (r := (.head cc81_4 [.blk 4, .seq cc81_5] (f81L1_S p0 p1 v3 0))) (obs := [(decide (x5 < (p1.Kids.length : Int))) = false, (p0.map (eI .u8)) ++ [(eI .u8 x1)] = (v1.map (eI .u8)), (v1.map (eI .u8)).length * 1 ≤ 140737488355328, (v1.map (eI .u8)).length ≤ 9223372036854775807, (decide (x2 < 128)) = true, (v1.map (eI .u8)) ++ [(eI .u8 (IntKind.wrap .u8 x2))] = (v2.map (eI .u8)), (v2.map (eI .u8)).length * 1 ≤ 140737488355328, (v2.map (eI .u8)).length ≤ 9223372036854775807, (v2.map (eI .u8)) ++ (p1.Body.map (eI .u8)) = (v3.map (eI .u8)), (v3.map (eI .u8)).length * 1 ≤ 140737488355328, (v3.map (eI .u8)).length ≤ 9223372036854775807, ((p1.Kids.map eSTlv).length : Int) = (p1.Kids.length : Int)])
        (by kernel_rfl) ⟨(df h1), (ap_map (eI .u8) h2), (ap_b (eI .u8) h2), (ap_n (eI .u8) h2), (dt h3), (ap_map (eI .u8) h4), (ap_b (eI .u8) h4), (ap_n (eI .u8) h4), (ap_map (eI .u8) h5), (ap_b (eI .u8) h5), (ap_n (eI .u8) h5), (len_m eSTlv _), trivial⟩ (ih_f81L1 fn hfn p0 p1 v3 0 _ h)
    · rw [if_neg h3] at h
      obtain ⟨v2, h4, h⟩ := bnd h
      obtain ⟨v3, h5, h⟩ := bnd h
      exact LH.round hT hm hfn (n := 1000) (ds := [.r [], .b false, .r [(3, ⟨(.h (.ivs (v1.map (eI .u8)))), [], []⟩)], .r [], .b false, .r [(1, ⟨(.c false [] ⟨[], [], [], 0, (.im (eI .i64 v2)), [], 0, [], 4⟩), [], []⟩)], .r [(5, ⟨(.h (.ivs (v3.map (eI .u8)))), [], []⟩)], .r [], .k ⟨[], [], [], [0, 3, 6, 10], [(1, 5), (2, 1)], 3, [], []⟩])
        (r := (.head cc81_2 [.blk 2, .seq cc81_3] (f81L2_S p0 p1 v3 x2 (IntKind.wrap .i64 ((IntKind.wrap .i64 (v2 - 2)) - 1))))) (obs := [(decide (x5 < (p1.Kids.length : Int))) = false, (p0.map (eI .u8)) ++ [(eI .u8 x1)] = (v1.map (eI .u8)), (v1.map (eI .u8)).length * 1 ≤ 140737488355328, (v1.map (eI .u8)).length ≤ 9223372036854775807, (decide (x2 < 128)) = false, Ct.Ok PX 127 ⟨[(.im (eI .i64 x2))], [], 0, (.im (eI .i64 v2)), [], 0⟩, (v1.map (eI .u8)) ++ [(eI .u8 (IntKind.wrap .u8 (IntKind.wrap .i64 (128 + (IntKind.wrap .i64 (v2 - 2))))))] = (v3.map (eI .u8)), (v3.map (eI .u8)).length * 1 ≤ 140737488355328, (v3.map (eI .u8)).length ≤ 9223372036854775807])
        (by kernel_rfl) ⟨(df h1), (ap_map (eI .u8) h2), (ap_b (eI .u8) h2), (ap_n (eI .u8) h2), (df h3), (f127_ok k x2 v2 h4), (ap_map (eI .u8) h5), (ap_b (eI .u8) h5), (ap_n (eI .u8) h5), trivial⟩ (ih_f81L2 fn hfn p0 p1 v3 x2 (IntKind.wrap .i64 ((IntKind.wrap .i64 (v2 - 2)) - 1)) _ h)

theorem f81L1_step (k : Nat) (ih_f81 : f81_P k) (ih_f81L0 : f81L0_P k) (ih_f81L1 : f81L1_P k) (ih_f81L2 : f81L2_P k) : f81L1_P (k + 1) := by
  intro fn hfn p0 p1 x0 x3 r h
  rw [f81L1] at h
  by_cases h1 : x3 < (p1.Kids.length : Int)
  · rw [if_pos h1] at h
    obtain ⟨v1, h2, h⟩ := bnd h
    obtain ⟨v2, h3, h⟩ := bnd h
    exact LH.round hT hm hfn (n := 1000) (ds := [.r [], .b true, .r [(0, ⟨(.h (.iv (.st [(1, (eI .i64 v1.Class)), (1, (eI .i64 v1.Tag)), (1, (eB v1.Made)), (1, (.sl 1 (v1.Body.map (eI .u8)))), (1, (.sl 5 (v1.Kids.map eSTlv)))]))), [], []⟩)], .r [(2, ⟨(.c false [] ⟨[(0, 1)], [], [], 1, (.ownF 1 1), [(1, (.row 5 1 (v2.map (eI .u8)) 0))], 2, [(3, 1)], 4⟩), [], []⟩)], .r [], .k ⟨[], [], [], [0, 78, 79, 80], [(1, 3)], 2, [], []⟩])
      (r := (.head cc81_4 [.blk 4, .seq cc81_5] (f81L1_S p0 p1 v2 (IntKind.wrap .i64 (x3 + 1))))) (obs := [(decide (x3 < (p1.Kids.length : Int))) = true, 0 ≤ x3, (p1.Kids.map eSTlv)[(x3).toNat]? = some (.st [(1, (eI .i64 v1.Class)), (1, (eI .i64 v1.Tag)), (1, (eB v1.Made)), (1, (.sl 1 (v1.Body.map (eI .u8)))), (1, (.sl 5 (v1.Kids.map eSTlv)))]), Ct.Ok PX 81 ⟨[(.ownF 1 0), (.im (.st [(1, (eI .i64 v1.Class)), (1, (eI .i64 v1.Tag)), (1, (eB v1.Made)), (1, (.sl 1 (v1.Body.map (eI .u8)))), (1, (.sl 5 (v1.Kids.map eSTlv)))]))], [(0, (.row 5 1 (x0.map (eI .u8)) 0))], 1, (.ownF 1 1), [(1, (.row 5 1 (v2.map (eI .u8)) 0))], 2⟩])
      (by kernel_rfl) ⟨(dt h1), (rd_nn h2), (by rw [← eSTlv_eq v1]; exact (rd_map eSTlv h2)), (ih_f81 x0 v1 v2 h3), trivial⟩ (ih_f81L1 fn hfn p0 p1 v2 (IntKind.wrap .i64 (x3 + 1)) _ h)
  · rw [if_neg h1] at h
    replace h := Option.some.inj h; subst h
    exact LH.round hT hm hfn (n := 1000) (ds := [.r [], .b false, .r [], .k ⟨[], [], [], [], [(1, 1)], 2, [], []⟩])
      (r := (.fin (.ownF 1 1) [(1, (.row 5 1 (x0.map (eI .u8)) 0))] 2)) (obs := [(decide (x3 < (p1.Kids.length : Int))) = false])
      (by kernel_rfl) ⟨(df h1), trivial⟩ ⟨rfl, rfl, rfl⟩

theorem f81L2_step (k : Nat) (ih_f81 : f81_P k) (ih_f81L0 : f81L0_P k) (ih_f81L1 : f81L1_P k) (ih_f81L2 : f81L2_P k) : f81L2_P (k + 1) := by
  intro fn hfn p0 p1 x0 x1 x2 r h
  rw [f81L2] at h
  by_cases h1 : x2 ≥ 0
  · rw [if_pos h1] at h
    obtain ⟨_, h2, h⟩ := bnd h
    replace h2 := up_ok h2
    obtain ⟨v1, h3, h⟩ := bnd h
    exact LH.round hT hm hfn (n := 1000) (ds := [.r [], .b true, .r [(4, ⟨(.h .no), [], []⟩), (7, ⟨(.h (.ivs (v1.map (eI .u8)))), [], []⟩)], .r [], .k ⟨[], [], [], [0, 3, 6, 10], [(1, 4), (2, 2)], 3, [], []⟩])
      (r := (.head cc81_2 [.blk 2, .seq cc81_3] (f81L2_S p0 p1 v1 x1 (IntKind.wrap .i64 (x2 - 1))))) (obs := [(decide (x2 ≥ 0)) = true, 0 ≤ (IntKind.wrap .i64 (8 * x2)), (x0.map (eI .u8)) ++ [(eI .u8 (IntKind.wrap .u8 (shrI .i64 x1 (IntKind.wrap .i64 (8 * x2)))))] = (v1.map (eI .u8)), (v1.map (eI .u8)).length * 1 ≤ 140737488355328, (v1.map (eI .u8)).length ≤ 9223372036854775807])
      (by kernel_rfl) ⟨(dt h1), h2, (ap_map (eI .u8) h3), (ap_b (eI .u8) h3), (ap_n (eI .u8) h3), trivial⟩ (ih_f81L2 fn hfn p0 p1 v1 x1 (IntKind.wrap .i64 (x2 - 1)) _ h)
  · rw [if_neg h1] at h
    obtain ⟨v1, h2, h⟩ := bnd h
    exact LH.round hT hm hfn (n := 1000) (ds := [.r [], .b false, .r [(3, ⟨(.h (.ivs (v1.map (eI .u8)))), [], []⟩)], .r [(2, ⟨(.h (.int (p1.Kids.length : Int))), [], []⟩)], .k ⟨[], [], [], [0, 78, 79, 80], [(1, 3)], 2, [], []⟩])
      (r := (.head cc81_4 [.blk 4, .seq cc81_5] (f81L1_S p0 p1 v1 0))) (obs := [(decide (x2 ≥ 0)) = false, (x0.map (eI .u8)) ++ (p1.Body.map (eI .u8)) = (v1.map (eI .u8)), (v1.map (eI .u8)).length * 1 ≤ 140737488355328, (v1.map (eI .u8)).length ≤ 9223372036854775807, ((p1.Kids.map eSTlv).length : Int) = (p1.Kids.length : Int)])
      (by kernel_rfl) ⟨(df h1), (ap_map (eI .u8) h2), (ap_b (eI .u8) h2), (ap_n (eI .u8) h2), (len_m eSTlv _), trivial⟩ (ih_f81L1 fn hfn p0 p1 v1 0 _ h)

theorem f81_all : ∀ k, f81_P k ∧ f81L0_P k ∧ f81L1_P k ∧ f81L2_P k
  | 0 => ⟨(by intro _ _ r h; rw [f81] at h; cases h), (by intro fn hfn _ _ _ _ _ r h; rw [f81L0] at h; cases h), (by intro fn hfn _ _ _ _ r h; rw [f81L1] at h; cases h), (by intro fn hfn _ _ _ _ _ r h; rw [f81L2] at h; cases h)⟩
  | k + 1 => ⟨f81_step k (f81_all k).1 (f81_all k).2.1 (f81_all k).2.2.1 (f81_all k).2.2.2, f81L0_step k (f81_all k).1 (f81_all k).2.1 (f81_all k).2.2.1 (f81_all k).2.2.2, f81L1_step k (f81_all k).1 (f81_all k).2.1 (f81_all k).2.2.1 (f81_all k).2.2.2, f81L2_step k (f81_all k).1 (f81_all k).2.1 (f81_all k).2.2.1 (f81_all k).2.2.2⟩

theorem f81_ok (k : Nat) : ∀ (p0 : (List Int)) (p1 : STlv) (r : (List Int)), f81 k p0 p1 = some r → Ct.Ok PX 81 ⟨[(.ownF 1 0), (.im (.st [(1, (eI .i64 p1.Class)), (1, (eI .i64 p1.Tag)), (1, (eB p1.Made)), (1, (.sl 1 (p1.Body.map (eI .u8)))), (1, (.sl 5 (p1.Kids.map eSTlv)))]))], [(0, (.row 5 1 (p0.map (eI .u8)) 0))], 1, (.ownF 1 1), [(1, (.row 5 1 (r.map (eI .u8)) 0))], 2⟩ := (f81_all k).1

theorem f81L0_ok (fn : Func) (hfn : fn.results = ([.t 4].map Rv.var).toArray) (k : Nat) : ∀ (p0 : (List Int)) (p1 : STlv) (x1 : Int) (x2 : Int) (x5 : Int) (r : (List Int)), f81L0 k p0 p1 x1 x2 x5 = some r → LH PX ⟨fn, 89, 1, (.ownF 1 1), [(1, (.row 5 1 (r.map (eI .u8)) 0))], 2⟩ cc81_0 [.blk 0, .seq cc81_1] (f81L0_S p0 p1 x1 x2 x5) := (f81_all k).2.1 fn hfn

theorem f81L1_ok (fn : Func) (hfn : fn.results = ([.t 4].map Rv.var).toArray) (k : Nat) : ∀ (p0 : (List Int)) (p1 : STlv) (x0 : (List Int)) (x3 : Int) (r : (List Int)), f81L1 k p0 p1 x0 x3 = some r → LH PX ⟨fn, 89, 1, (.ownF 1 1), [(1, (.row 5 1 (r.map (eI .u8)) 0))], 2⟩ cc81_4 [.blk 4, .seq cc81_5] (f81L1_S p0 p1 x0 x3) := (f81_all k).2.2.1 fn hfn

theorem f81L2_ok (fn : Func) (hfn : fn.results = ([.t 4].map Rv.var).toArray) (k : Nat) : ∀ (p0 : (List Int)) (p1 : STlv) (x0 : (List Int)) (x1 : Int) (x2 : Int) (r : (List Int)), f81L2 k p0 p1 x0 x1 x2 = some r → LH PX ⟨fn, 89, 1, (.ownF 1 1), [(1, (.row 5 1 (r.map (eI .u8)) 0))], 2⟩ cc81_2 [.blk 2, .seq cc81_3] (f81L2_S p0 p1 x0 x1 x2) := (f81_all k).2.2.2 fn hfn
end Go.Proofs.Tryd.E
end

section
namespace Go.Proofs.Tryd.E
open Go Go.Eng
set_option maxRecDepth 100000
set_option linter.unusedVariables false
def f39 (k : Nat) (p0 : STlv) : Option ((List Int) × Er) :=
  (f80 k p0).bind fun v1 =>
  Er.on v1.2 (
   (f81 k [] p0).bind fun v2 =>
   some (v2, Er.nil))
   (fun v2 =>
   some ([], (Er.code v2)))
   (fun v2 v3 =>
   some ([], (Er.spot v2 v3)))

theorem f39_ok (k : Nat) : ∀ (p0 : STlv) (r : (List Int) × Er), f39 k p0 = some r → Ct.Ok PX 39 ⟨[(.im (.st [(1, (eI .i64 p0.Class)), (1, (eI .i64 p0.Tag)), (1, (eB p0.Made)), (1, (.sl 1 (p0.Body.map (eI .u8)))), (1, (.sl 5 (p0.Kids.map eSTlv)))]))], [], 0, (.tup [(.im (.sl 1 (r.1.map (eI .u8)))), (.im (eEr r.2))]), [], 0⟩ := by
  intro p0 r h
  unfold f39 at h
  obtain ⟨v1, h1, h⟩ := bnd h
  rcases h2 : v1.2 with _ | v2 | ⟨v2, v3⟩
  · rw [h2] at h; dsimp only [Er.on] at h
    obtain ⟨v2, h3, h⟩ := bnd h
    replace h := Option.some.inj h; subst h
    exact Ct.ofWalk hT hm F39 (by kernel_rfl) (n := 1000) (ds := [.r [], .r [(1, ⟨(.c false [] ⟨[], [], [], 0, (.tup [(.im (eI .i64 v1.1)), (.im (.v .nilIface))]), [], 0, [], 1⟩), [], []⟩)], .r [], .bc false, .r [(1, ⟨(.c false [] ⟨[(0, 1)], [], [], 1, (.ownF 1 1), [(1, (.row 5 1 (v2.map (eI .u8)) 0))], 2, [(2, 1)], 3⟩ [(0, 5, 1)]), [], []⟩)], .k ⟨[], [], [2], [], [], 0, [], []⟩])
      (r := (.fin (.tup [(.im (.sl 1 (v2.map (eI .u8)))), (.im (.v .nilIface))]) [] 0)) (obs := [Ct.Ok PX 80 ⟨[(.im (.st [(1, (eI .i64 p0.Class)), (1, (eI .i64 p0.Tag)), (1, (eB p0.Made)), (1, (.sl 1 (p0.Body.map (eI .u8)))), (1, (.sl 5 (p0.Kids.map eSTlv)))]))], [], 0, (.tup [(.im (eI .i64 v1.1)), (.im (.v .nilIface))]), [], 0⟩, Ct.Ok PX 81 ⟨[(.ownF 1 0), (.im (.st [(1, (eI .i64 p0.Class)), (1, (eI .i64 p0.Tag)), (1, (eB p0.Made)), (1, (.sl 1 (p0.Body.map (eI .u8)))), (1, (.sl 5 (p0.Kids.map eSTlv)))]))], [(0, (.row 5 1 [] 0))], 1, (.ownF 1 1), [(1, (.row 5 1 (v2.map (eI .u8)) 0))], 2⟩])
      (by kernel_rfl) ⟨(by have q := (f80_ok k p0 v1 h1); rw [h2] at q; exact q), (f81_ok k [] p0 v2 h3), trivial⟩ (fun fn hfn => ⟨rfl, rfl, rfl⟩)
  · rw [h2] at h; dsimp only [Er.on] at h
    replace h := Option.some.inj h; subst h
    exact Ct.ofWalk hT hm F39 (by kernel_rfl) (n := 1000) (ds := [.r [], .r [(1, ⟨(.c false [] ⟨[], [], [], 0, (.tup [(.im (eI .i64 v1.1)), (.im (.ifc 40 (eI .i64 v2)))]), [], 0, [], 1⟩), [], []⟩)], .r [], .bc true, .r [], .k ⟨[], [], [], [], [], 0, [(0, (.s [(.n 1)]))], []⟩])
      (r := (.fin (.tup [(.im (.sl 1 [])), (.im (.ifc 40 (eI .i64 v2)))]) [] 0)) (obs := [Ct.Ok PX 80 ⟨[(.im (.st [(1, (eI .i64 p0.Class)), (1, (eI .i64 p0.Tag)), (1, (eB p0.Made)), (1, (.sl 1 (p0.Body.map (eI .u8)))), (1, (.sl 5 (p0.Kids.map eSTlv)))]))], [], 0, (.tup [(.im (eI .i64 v1.1)), (.im (.ifc 40 (eI .i64 v2)))]), [], 0⟩])
      (by kernel_rfl) ⟨(by have q := (f80_ok k p0 v1 h1); rw [h2] at q; exact q), trivial⟩ (fun fn hfn => ⟨rfl, rfl, rfl⟩)
  · rw [h2] at h; dsimp only [Er.on] at h
    replace h := Option.some.inj h; subst h
    exact Ct.ofWalk hT hm F39 (by kernel_rfl) (n := 1000) (ds := [.r [], .r [(1, ⟨(.c false [] ⟨[], [], [], 0, (.tup [(.im (eI .i64 v1.1)), (.im (.ifc 77 (.pim 2 (.st [(1, (eI .i64 v2)), (1, (.ifc 40 (eI .i64 v3)))]))))]), [], 0, [], 1⟩), [], []⟩)], .r [], .bc true, .r [], .k ⟨[], [], [], [], [], 0, [(0, (.s [(.n 1)]))], []⟩])
      (r := (.fin (.tup [(.im (.sl 1 [])), (.im (.ifc 77 (.pim 2 (.st [(1, (eI .i64 v2)), (1, (.ifc 40 (eI .i64 v3)))]))))]) [] 0)) (obs := [Ct.Ok PX 80 ⟨[(.im (.st [(1, (eI .i64 p0.Class)), (1, (eI .i64 p0.Tag)), (1, (eB p0.Made)), (1, (.sl 1 (p0.Body.map (eI .u8)))), (1, (.sl 5 (p0.Kids.map eSTlv)))]))], [], 0, (.tup [(.im (eI .i64 v1.1)), (.im (.ifc 77 (.pim 2 (.st [(1, (eI .i64 v2)), (1, (.ifc 40 (eI .i64 v3)))]))))]), [], 0⟩])
      (by kernel_rfl) ⟨(by have q := (f80_ok k p0 v1 h1); rw [h2] at q; exact q), trivial⟩ (fun fn hfn => ⟨rfl, rfl, rfl⟩)
end Go.Proofs.Tryd.E
end

section
namespace Go.Proofs.Tryd.E
open Go Go.Eng
set_option maxRecDepth 100000
set_option linter.unusedVariables false
def f18L0_S (p0 : SCrl) (x0 : (List STlv)) (x3 : Int) (x4 : Int) (x5 : Int) (x6 : Bool) (x8 : (List STlv)) : S := ⟨[(10, (.ref 0 [])), (11, (.ownF 5 1)), (60, (.im (.sl 2 (p0.Gone.map eSGone)))), (61, (.im (eI .i64 (p0.Gone.length : Int)))), (62, (.im (eI .i64 x3)))], [(0, (.box false 5 (.st [(1, (.im (eI .i64 x4))), (1, (.im (eI .i64 x5))), (1, (.im (eB x6))), (1, (.im (.v (.slice none 0 0)))), (1, (.ownF 5 2))]))), (1, (.row 35 5 (x0.map eSTlv) 0)), (2, (.row 35 5 (x8.map eSTlv) 0))], 3⟩

def f18L0 : Nat → SCrl → (List STlv) → Int → Int → Int → Bool → (List STlv) → Option ((List Int) × Er)
  | 0, _, _, _, _, _, _, _ => none
  | k + 1, p0, x0, x3, x4, x5, x6, x8 =>
    if x3 < (p0.Gone.length : Int) then (
     (rd p0.Gone x3).bind fun v1 =>
     (f38 k v1.Serial).bind fun v2 =>
     (f34 k v1.At).bind fun v3 =>
     if v2.2 = true then (
      if v3.2 = true then (
       (f35 k [v2.1, v3.1]).bind fun v4 =>
       (ap 72 x0 [(STlv.mk v4.1 v4.2.1 v4.2.2.1 [] v4.2.2.2)]).bind fun v5 =>
       f18L0 k p0 v5 (IntKind.wrap .i64 (x3 + 1)) x4 x5 x6 x8)
      else (
       some ([], (Er.code 1))))
     else (
      some ([], (Er.code 1))))
    else (
     if (x0.length : Int) > 0 then (
      (f35 k x0).bind fun v1 =>
      (ap 72 x8 [(STlv.mk v1.1 v1.2.1 v1.2.2.1 [] v1.2.2.2)]).bind fun v2 =>
      (f39 k (STlv.mk x4 x5 x6 [] v2)).bind fun v3 =>
      Er.on v3.2 (
       some (v3.1, Er.nil))
       (fun v4 =>
       some (v3.1, (Er.code v4)))
       (fun v4 v5 =>
       some (v3.1, (Er.spot v4 v5))))
     else (
      (f39 k (STlv.mk x4 x5 x6 [] x8)).bind fun v1 =>
      Er.on v1.2 (
       some (v1.1, Er.nil))
       (fun v2 =>
       some (v1.1, (Er.code v2)))
       (fun v2 v3 =>
       some (v1.1, (Er.spot v2 v3)))))

def f18L0_P (k : Nat) : Prop := ∀ (fn : Func) (_ : fn.results = ([.t 2, .t 3].map Rv.var).toArray), ∀ (p0 : SCrl) (x0 : (List STlv)) (x3 : Int) (x4 : Int) (x5 : Int) (x6 : Bool) (x8 : (List STlv)) (r : (List Int) × Er), f18L0 k p0 x0 x3 x4 x5 x6 x8 = some r → LH PX ⟨fn, 107, 0, (.tup [(.im (.sl 1 (r.1.map (eI .u8)))), (.im (eEr r.2))]), [], 0⟩ cc18_0 [.blk 0, .seq cc18_1] (f18L0_S p0 x0 x3 x4 x5 x6 x8)

theorem f18L0_step (k : Nat) (ih_f18L0 : f18L0_P k) : f18L0_P (k + 1) := by
  intro fn hfn p0 x0 x3 x4 x5 x6 x8 r h
  rw [f18L0] at h
  by_cases h1 : x3 < (p0.Gone.length : Int)
  · rw [if_pos h1] at h
    obtain ⟨v1, h2, h⟩ := bnd h
    obtain ⟨v2, h3, h⟩ := bnd h
    obtain ⟨v3, h4, h⟩ := bnd h
    by_cases h5 : v2.2 = true
    · rw [if_pos h5] at h
      by_cases h6 : v3.2 = true
      · rw [if_pos h6] at h
        obtain ⟨v4, h7, h⟩ := bnd h
        obtain ⟨v5, h8, h⟩ := bnd h
        exact LH.round hT hm hfn (n := 1000) (ds := [.r [], .b true, .r [(0, ⟨(.h (.iv (.st [(1, (.sl 1 (v1.Serial.map (eI .u8)))), (1, (eI .i64 v1.At))]))), [], []⟩)], .r [(2, ⟨(.c false [] ⟨[], [], [], 0, (.tup [(.im (.st [(1, (eI .i64 v2.1.Class)), (1, (eI .i64 v2.1.Tag)), (1, (eB v2.1.Made)), (1, (.sl 1 (v2.1.Body.map (eI .u8)))), (1, (.sl 5 (v2.1.Kids.map eSTlv)))])), (.im (eB v2.2))]), [], 0, [], 4⟩), [], []⟩)], .r [(2, ⟨(.c false [] ⟨[], [], [], 0, (.tup [(.im (.st [(1, (eI .i64 v3.1.Class)), (1, (eI .i64 v3.1.Tag)), (1, (eB v3.1.Made)), (1, (.sl 1 (v3.1.Body.map (eI .u8)))), (1, (.sl 5 (v3.1.Kids.map eSTlv)))])), (.im (eB v3.2))]), [], 0, [], 5⟩), [], []⟩)], .r [(3, ⟨(.h (.gt .no)), [], []⟩), (4, ⟨(.h (.gt .no)), [], []⟩), (5, ⟨(.h .gf), [], []⟩)], .b false, .r [(4, ⟨(.c false [] ⟨[(0, 6)], [], [(0, (.e (.arr 0 ([v2.1, v3.1].map eSTlv))))], 1, (.st [(1, (.im (eI .i64 v4.1))), (1, (.im (eI .i64 v4.2.1))), (1, (.im (eB v4.2.2.1))), (1, (.im (.v (.slice none 0 0)))), (1, (.ownF 5 1))]), [(1, (.row 35 5 (v4.2.2.2.map eSTlv) 0))], 2, [(7, 1)], 8⟩), [], []⟩), (5, ⟨.a, [.ps [(8, (.s [(.s [.k, .k, .k, (.n 1)])]))]], []⟩), (6, ⟨(.h (.ivs (v5.map eSTlv))), [], []⟩)], .r [], .k ⟨[], [], [], [10, 11, 60, 61, 62], [(0, 0), (1, 9), (2, 2)], 3, [], []⟩])
          (r := (.head cc18_0 [.blk 0, .seq cc18_1] (f18L0_S p0 v5 (IntKind.wrap .i64 (x3 + 1)) x4 x5 x6 x8))) (obs := [(decide (x3 < (p0.Gone.length : Int))) = true, 0 ≤ x3, (p0.Gone.map eSGone)[(x3).toNat]? = some (.st [(1, (.sl 1 (v1.Serial.map (eI .u8)))), (1, (eI .i64 v1.At))]), Ct.Ok PX 38 ⟨[(.im (.sl 1 (v1.Serial.map (eI .u8))))], [], 0, (.tup [(.im (.st [(1, (eI .i64 v2.1.Class)), (1, (eI .i64 v2.1.Tag)), (1, (eB v2.1.Made)), (1, (.sl 1 (v2.1.Body.map (eI .u8)))), (1, (.sl 5 (v2.1.Kids.map eSTlv)))])), (.im (eB v2.2))]), [], 0⟩, Ct.Ok PX 34 ⟨[(.im (eI .i64 v1.At))], [], 0, (.tup [(.im (.st [(1, (eI .i64 v3.1.Class)), (1, (eI .i64 v3.1.Tag)), (1, (eB v3.1.Made)), (1, (.sl 1 (v3.1.Body.map (eI .u8)))), (1, (.sl 5 (v3.1.Kids.map eSTlv)))])), (.im (eB v3.2))]), [], 0⟩, (!v2.2) = false, (!v2.2) = false, (!v2.2) = false, (!v3.2) = false, Ct.Ok PX 35 ⟨[(.ownF 5 0)], [(0, (.row 35 5 ([v2.1, v3.1].map eSTlv) 0))], 1, (.st [(1, (.im (eI .i64 v4.1))), (1, (.im (eI .i64 v4.2.1))), (1, (.im (eB v4.2.2.1))), (1, (.im (.v (.slice none 0 0)))), (1, (.ownF 5 1))]), [(1, (.row 35 5 (v4.2.2.2.map eSTlv) 0))], 2⟩, [(.st [(1, (eI .i64 v2.1.Class)), (1, (eI .i64 v2.1.Tag)), (1, (eB v2.1.Made)), (1, (.sl 1 (v2.1.Body.map (eI .u8)))), (1, (.sl 5 (v2.1.Kids.map eSTlv)))]), (.st [(1, (eI .i64 v3.1.Class)), (1, (eI .i64 v3.1.Tag)), (1, (eB v3.1.Made)), (1, (.sl 1 (v3.1.Body.map (eI .u8)))), (1, (.sl 5 (v3.1.Kids.map eSTlv)))])] = ([v2.1, v3.1].map eSTlv), (x0.map eSTlv) ++ [(.st [(1, (eI .i64 v4.1)), (1, (eI .i64 v4.2.1)), (1, (eB v4.2.2.1)), (1, (.sl 1 [])), (1, (.sl 5 (v4.2.2.2.map eSTlv)))])] = (v5.map eSTlv), (v5.map eSTlv).length * 72 ≤ 140737488355328, (v5.map eSTlv).length ≤ 9223372036854775807])
          (by kernel_rfl) ⟨(dt h1), (rd_nn h2), (rd_map eSGone h2), (f38_ok k v1.Serial v2 h3), (f34_ok k v1.At v3 h4), (not_f h5), (not_f h5), (not_f h5), (not_f h6), (f35_ok k [v2.1, v3.1] v4 h7), (show [(.st [(1, (eI .i64 v2.1.Class)), (1, (eI .i64 v2.1.Tag)), (1, (eB v2.1.Made)), (1, (.sl 1 (v2.1.Body.map (eI .u8)))), (1, (.sl 5 (v2.1.Kids.map eSTlv)))]), (.st [(1, (eI .i64 v3.1.Class)), (1, (eI .i64 v3.1.Tag)), (1, (eB v3.1.Made)), (1, (.sl 1 (v3.1.Body.map (eI .u8)))), (1, (.sl 5 (v3.1.Kids.map eSTlv)))])] = [v2.1, v3.1].map eSTlv from by simp only [List.map_cons, List.map_nil, eSTlv_eq, STlv.Class, STlv.Tag, STlv.Made, STlv.Body, STlv.Kids]), ((congr (congrArg HAppend.hAppend rfl) (show [(.st [(1, (eI .i64 v4.1)), (1, (eI .i64 v4.2.1)), (1, (eB v4.2.2.1)), (1, (.sl 1 [])), (1, (.sl 5 (v4.2.2.2.map eSTlv)))])] = [(STlv.mk v4.1 v4.2.1 v4.2.2.1 [] v4.2.2.2)].map eSTlv from by simp only [List.map_cons, List.map_nil, eSTlv_eq, STlv.Class, STlv.Tag, STlv.Made, STlv.Body, STlv.Kids])).trans (ap_map eSTlv h8)), (ap_b eSTlv h8), (ap_n eSTlv h8), trivial⟩ (ih_f18L0 fn hfn p0 v5 (IntKind.wrap .i64 (x3 + 1)) x4 x5 x6 x8 _ h)
      · rw [if_neg h6] at h
        replace h := Option.some.inj h; subst h
        exact LH.round hT hm hfn (n := 1000) (ds := [.r [], .b true, .r [(0, ⟨(.h (.iv (.st [(1, (.sl 1 (v1.Serial.map (eI .u8)))), (1, (eI .i64 v1.At))]))), [], []⟩)], .r [(2, ⟨(.c false [] ⟨[], [], [], 0, (.tup [(.im (.st [(1, (eI .i64 v2.1.Class)), (1, (eI .i64 v2.1.Tag)), (1, (eB v2.1.Made)), (1, (.sl 1 (v2.1.Body.map (eI .u8)))), (1, (.sl 5 (v2.1.Kids.map eSTlv)))])), (.im (eB v2.2))]), [], 0, [], 4⟩), [], []⟩)], .r [(2, ⟨(.c false [] ⟨[], [], [], 0, (.tup [(.im (.st [(1, (eI .i64 v3.1.Class)), (1, (eI .i64 v3.1.Tag)), (1, (eB v3.1.Made)), (1, (.sl 1 (v3.1.Body.map (eI .u8)))), (1, (.sl 5 (v3.1.Kids.map eSTlv)))])), (.im (eB v3.2))]), [], 0, [], 5⟩), [], []⟩)], .r [(3, ⟨(.h (.gt .no)), [], []⟩), (4, ⟨(.h (.gt .no)), [], []⟩), (5, ⟨(.h .gf), [], []⟩)], .b true, .r [], .k ⟨[], [], [], [], [], 0, [(0, (.s [(.n 1)]))], []⟩])
          (r := (.fin (.tup [(.im (.sl 1 [])), (.im (.ifc 40 (eI .i64 1)))]) [] 0)) (obs := [(decide (x3 < (p0.Gone.length : Int))) = true, 0 ≤ x3, (p0.Gone.map eSGone)[(x3).toNat]? = some (.st [(1, (.sl 1 (v1.Serial.map (eI .u8)))), (1, (eI .i64 v1.At))]), Ct.Ok PX 38 ⟨[(.im (.sl 1 (v1.Serial.map (eI .u8))))], [], 0, (.tup [(.im (.st [(1, (eI .i64 v2.1.Class)), (1, (eI .i64 v2.1.Tag)), (1, (eB v2.1.Made)), (1, (.sl 1 (v2.1.Body.map (eI .u8)))), (1, (.sl 5 (v2.1.Kids.map eSTlv)))])), (.im (eB v2.2))]), [], 0⟩, Ct.Ok PX 34 ⟨[(.im (eI .i64 v1.At))], [], 0, (.tup [(.im (.st [(1, (eI .i64 v3.1.Class)), (1, (eI .i64 v3.1.Tag)), (1, (eB v3.1.Made)), (1, (.sl 1 (v3.1.Body.map (eI .u8)))), (1, (.sl 5 (v3.1.Kids.map eSTlv)))])), (.im (eB v3.2))]), [], 0⟩, (!v2.2) = false, (!v2.2) = false, (!v2.2) = false, (!v3.2) = true])
          (by kernel_rfl) ⟨(dt h1), (rd_nn h2), (rd_map eSGone h2), (f38_ok k v1.Serial v2 h3), (f34_ok k v1.At v3 h4), (not_f h5), (not_f h5), (not_f h5), (not_t (vf h6)), trivial⟩ ⟨rfl, rfl, rfl⟩
    · rw [if_neg h5] at h
      replace h := Option.some.inj h; subst h
      exact LH.round hT hm hfn (n := 1000) (ds := [.r [], .b true, .r [(0, ⟨(.h (.iv (.st [(1, (.sl 1 (v1.Serial.map (eI .u8)))), (1, (eI .i64 v1.At))]))), [], []⟩)], .r [(2, ⟨(.c false [] ⟨[], [], [], 0, (.tup [(.im (.st [(1, (eI .i64 v2.1.Class)), (1, (eI .i64 v2.1.Tag)), (1, (eB v2.1.Made)), (1, (.sl 1 (v2.1.Body.map (eI .u8)))), (1, (.sl 5 (v2.1.Kids.map eSTlv)))])), (.im (eB v2.2))]), [], 0, [], 4⟩), [], []⟩)], .r [(2, ⟨(.c false [] ⟨[], [], [], 0, (.tup [(.im (.st [(1, (eI .i64 v3.1.Class)), (1, (eI .i64 v3.1.Tag)), (1, (eB v3.1.Made)), (1, (.sl 1 (v3.1.Body.map (eI .u8)))), (1, (.sl 5 (v3.1.Kids.map eSTlv)))])), (.im (eB v3.2))]), [], 0, [], 5⟩), [], []⟩)], .r [(3, ⟨(.h .gf), [], []⟩), (4, ⟨(.h .gf), [], []⟩), (5, ⟨(.h (.gt .no)), [], []⟩)], .bc true, .r [], .k ⟨[], [], [], [], [], 0, [(0, (.s [(.n 1)]))], []⟩])
        (r := (.fin (.tup [(.im (.sl 1 [])), (.im (.ifc 40 (eI .i64 1)))]) [] 0)) (obs := [(decide (x3 < (p0.Gone.length : Int))) = true, 0 ≤ x3, (p0.Gone.map eSGone)[(x3).toNat]? = some (.st [(1, (.sl 1 (v1.Serial.map (eI .u8)))), (1, (eI .i64 v1.At))]), Ct.Ok PX 38 ⟨[(.im (.sl 1 (v1.Serial.map (eI .u8))))], [], 0, (.tup [(.im (.st [(1, (eI .i64 v2.1.Class)), (1, (eI .i64 v2.1.Tag)), (1, (eB v2.1.Made)), (1, (.sl 1 (v2.1.Body.map (eI .u8)))), (1, (.sl 5 (v2.1.Kids.map eSTlv)))])), (.im (eB v2.2))]), [], 0⟩, Ct.Ok PX 34 ⟨[(.im (eI .i64 v1.At))], [], 0, (.tup [(.im (.st [(1, (eI .i64 v3.1.Class)), (1, (eI .i64 v3.1.Tag)), (1, (eB v3.1.Made)), (1, (.sl 1 (v3.1.Body.map (eI .u8)))), (1, (.sl 5 (v3.1.Kids.map eSTlv)))])), (.im (eB v3.2))]), [], 0⟩, (!v2.2) = !false, (!v2.2) = !false, (!v2.2) = true])
        (by kernel_rfl) ⟨(dt h1), (rd_nn h2), (rd_map eSGone h2), (f38_ok k v1.Serial v2 h3), (f34_ok k v1.At v3 h4), (not_t (vf h5)), (not_t (vf h5)), (not_t (vf h5)), trivial⟩ ⟨rfl, rfl, rfl⟩
  · rw [if_neg h1] at h
    by_cases h2 : (x0.length : Int) > 0
    · rw [if_pos h2] at h
      obtain ⟨v1, h3, h⟩ := bnd h
      obtain ⟨v2, h4, h⟩ := bnd h
      obtain ⟨v3, h5, h⟩ := bnd h
      rcases h6 : v3.2 with _ | v4 | ⟨v4, v5⟩
      · rw [h6] at h; dsimp only [Er.on] at h
        replace h := Option.some.inj h; subst h
        exact LH.round hT hm hfn (n := 1000) (ds := [.r [], .b false, .r [(1, ⟨(.h (.int (x0.length : Int))), [], []⟩)], .b true, .r [(3, ⟨(.c false [] ⟨[(0, 1)], [], [], 1, (.st [(1, (.im (eI .i64 v1.1))), (1, (.im (eI .i64 v1.2.1))), (1, (.im (eB v1.2.2.1))), (1, (.im (.v (.slice none 0 0)))), (1, (.ownF 5 1))]), [(1, (.row 35 5 (v1.2.2.2.map eSTlv) 0))], 2, [(3, 1)], 4⟩), [], []⟩), (4, ⟨.a, [.ps [(4, (.s [(.s [.k, .k, .k, (.n 1)])]))]], []⟩), (5, ⟨(.h (.ivs (v2.map eSTlv))), [], []⟩)], .r [(1, ⟨(.c false [5] ⟨[], [(.s [.k, .k, .k, (.n 1)])], [], 0, (.tup [(.im (.sl 1 (v3.1.map (eI .u8)))), (.im (.v .nilIface))]), [], 0, [], 6⟩), [], []⟩)], .k ⟨[], [], [], [], [], 0, [], []⟩])
          (r := (.fin (.tup [(.im (.sl 1 (v3.1.map (eI .u8)))), (.im (.v .nilIface))]) [] 0)) (obs := [(decide (x3 < (p0.Gone.length : Int))) = false, ((x0.map eSTlv).length : Int) = (x0.length : Int), (decide ((x0.length : Int) > 0)) = true, Ct.Ok PX 35 ⟨[(.ownF 5 0)], [(0, (.row 35 5 (x0.map eSTlv) 0))], 1, (.st [(1, (.im (eI .i64 v1.1))), (1, (.im (eI .i64 v1.2.1))), (1, (.im (eB v1.2.2.1))), (1, (.im (.v (.slice none 0 0)))), (1, (.ownF 5 1))]), [(1, (.row 35 5 (v1.2.2.2.map eSTlv) 0))], 2⟩, (x8.map eSTlv) ++ [(.st [(1, (eI .i64 v1.1)), (1, (eI .i64 v1.2.1)), (1, (eB v1.2.2.1)), (1, (.sl 1 [])), (1, (.sl 5 (v1.2.2.2.map eSTlv)))])] = (v2.map eSTlv), (v2.map eSTlv).length * 72 ≤ 140737488355328, (v2.map eSTlv).length ≤ 9223372036854775807, Ct.Ok PX 39 ⟨[(.im (.st [(1, (eI .i64 x4)), (1, (eI .i64 x5)), (1, (eB x6)), (1, (.sl 1 [])), (1, (.sl 5 (v2.map eSTlv)))]))], [], 0, (.tup [(.im (.sl 1 (v3.1.map (eI .u8)))), (.im (.v .nilIface))]), [], 0⟩])
          (by kernel_rfl) ⟨(df h1), (len_m eSTlv _), (dt h2), (f35_ok k x0 v1 h3), ((congr (congrArg HAppend.hAppend rfl) (show [(.st [(1, (eI .i64 v1.1)), (1, (eI .i64 v1.2.1)), (1, (eB v1.2.2.1)), (1, (.sl 1 [])), (1, (.sl 5 (v1.2.2.2.map eSTlv)))])] = [(STlv.mk v1.1 v1.2.1 v1.2.2.1 [] v1.2.2.2)].map eSTlv from by simp only [List.map_cons, List.map_nil, eSTlv_eq, STlv.Class, STlv.Tag, STlv.Made, STlv.Body, STlv.Kids])).trans (ap_map eSTlv h4)), (ap_b eSTlv h4), (ap_n eSTlv h4), (by have q := (f39_ok k (STlv.mk x4 x5 x6 [] v2) v3 h5); rw [h6] at q; exact q), trivial⟩ ⟨rfl, rfl, rfl⟩
      · rw [h6] at h; dsimp only [Er.on] at h
        replace h := Option.some.inj h; subst h
        exact LH.round hT hm hfn (n := 1000) (ds := [.r [], .b false, .r [(1, ⟨(.h (.int (x0.length : Int))), [], []⟩)], .b true, .r [(3, ⟨(.c false [] ⟨[(0, 1)], [], [], 1, (.st [(1, (.im (eI .i64 v1.1))), (1, (.im (eI .i64 v1.2.1))), (1, (.im (eB v1.2.2.1))), (1, (.im (.v (.slice none 0 0)))), (1, (.ownF 5 1))]), [(1, (.row 35 5 (v1.2.2.2.map eSTlv) 0))], 2, [(3, 1)], 4⟩), [], []⟩), (4, ⟨.a, [.ps [(4, (.s [(.s [.k, .k, .k, (.n 1)])]))]], []⟩), (5, ⟨(.h (.ivs (v2.map eSTlv))), [], []⟩)], .r [(1, ⟨(.c false [5] ⟨[], [(.s [.k, .k, .k, (.n 1)])], [], 0, (.tup [(.im (.sl 1 (v3.1.map (eI .u8)))), (.im (.ifc 40 (eI .i64 v4)))]), [], 0, [], 6⟩), [], []⟩)], .k ⟨[], [], [], [], [], 0, [], []⟩])
          (r := (.fin (.tup [(.im (.sl 1 (v3.1.map (eI .u8)))), (.im (.ifc 40 (eI .i64 v4)))]) [] 0)) (obs := [(decide (x3 < (p0.Gone.length : Int))) = false, ((x0.map eSTlv).length : Int) = (x0.length : Int), (decide ((x0.length : Int) > 0)) = true, Ct.Ok PX 35 ⟨[(.ownF 5 0)], [(0, (.row 35 5 (x0.map eSTlv) 0))], 1, (.st [(1, (.im (eI .i64 v1.1))), (1, (.im (eI .i64 v1.2.1))), (1, (.im (eB v1.2.2.1))), (1, (.im (.v (.slice none 0 0)))), (1, (.ownF 5 1))]), [(1, (.row 35 5 (v1.2.2.2.map eSTlv) 0))], 2⟩, (x8.map eSTlv) ++ [(.st [(1, (eI .i64 v1.1)), (1, (eI .i64 v1.2.1)), (1, (eB v1.2.2.1)), (1, (.sl 1 [])), (1, (.sl 5 (v1.2.2.2.map eSTlv)))])] = (v2.map eSTlv), (v2.map eSTlv).length * 72 ≤ 140737488355328, (v2.map eSTlv).length ≤ 9223372036854775807, Ct.Ok PX 39 ⟨[(.im (.st [(1, (eI .i64 x4)), (1, (eI .i64 x5)), (1, (eB x6)), (1, (.sl 1 [])), (1, (.sl 5 (v2.map eSTlv)))]))], [], 0, (.tup [(.im (.sl 1 (v3.1.map (eI .u8)))), (.im (.ifc 40 (eI .i64 v4)))]), [], 0⟩])
          (by kernel_rfl) ⟨(df h1), (len_m eSTlv _), (dt h2), (f35_ok k x0 v1 h3), ((congr (congrArg HAppend.hAppend rfl) (show [(.st [(1, (eI .i64 v1.1)), (1, (eI .i64 v1.2.1)), (1, (eB v1.2.2.1)), (1, (.sl 1 [])), (1, (.sl 5 (v1.2.2.2.map eSTlv)))])] = [(STlv.mk v1.1 v1.2.1 v1.2.2.1 [] v1.2.2.2)].map eSTlv from by simp only [List.map_cons, List.map_nil, eSTlv_eq, STlv.Class, STlv.Tag, STlv.Made, STlv.Body, STlv.Kids])).trans (ap_map eSTlv h4)), (ap_b eSTlv h4), (ap_n eSTlv h4), (by have q := (f39_ok k (STlv.mk x4 x5 x6 [] v2) v3 h5); rw [h6] at q; exact q), trivial⟩ ⟨rfl, rfl, rfl⟩
      · rw [h6] at h; dsimp only [Er.on] at h
        replace h := Option.some.inj h; subst h
        exact LH.round hT hm hfn (n := 1000) (ds := [.r [], .b false, .r [(1, ⟨(.h (.int (x0.length : Int))), [], []⟩)], .b true, .r [(3, ⟨(.c false [] ⟨[(0, 1)], [], [], 1, (.st [(1, (.im (eI .i64 v1.1))), (1, (.im (eI .i64 v1.2.1))), (1, (.im (eB v1.2.2.1))), (1, (.im (.v (.slice none 0 0)))), (1, (.ownF 5 1))]), [(1, (.row 35 5 (v1.2.2.2.map eSTlv) 0))], 2, [(3, 1)], 4⟩), [], []⟩), (4, ⟨.a, [.ps [(4, (.s [(.s [.k, .k, .k, (.n 1)])]))]], []⟩), (5, ⟨(.h (.ivs (v2.map eSTlv))), [], []⟩)], .r [(1, ⟨(.c false [5] ⟨[], [(.s [.k, .k, .k, (.n 1)])], [], 0, (.tup [(.im (.sl 1 (v3.1.map (eI .u8)))), (.im (.ifc 77 (.pim 2 (.st [(1, (eI .i64 v4)), (1, (.ifc 40 (eI .i64 v5)))]))))]), [], 0, [], 6⟩), [], []⟩)], .k ⟨[], [], [], [], [], 0, [], []⟩])
          (r := (.fin (.tup [(.im (.sl 1 (v3.1.map (eI .u8)))), (.im (.ifc 77 (.pim 2 (.st [(1, (eI .i64 v4)), (1, (.ifc 40 (eI .i64 v5)))]))))]) [] 0)) (obs := [(decide (x3 < (p0.Gone.length : Int))) = false, ((x0.map eSTlv).length : Int) = (x0.length : Int), (decide ((x0.length : Int) > 0)) = true, Ct.Ok PX 35 ⟨[(.ownF 5 0)], [(0, (.row 35 5 (x0.map eSTlv) 0))], 1, (.st [(1, (.im (eI .i64 v1.1))), (1, (.im (eI .i64 v1.2.1))), (1, (.im (eB v1.2.2.1))), (1, (.im (.v (.slice none 0 0)))), (1, (.ownF 5 1))]), [(1, (.row 35 5 (v1.2.2.2.map eSTlv) 0))], 2⟩, (x8.map eSTlv) ++ [(.st [(1, (eI .i64 v1.1)), (1, (eI .i64 v1.2.1)), (1, (eB v1.2.2.1)), (1, (.sl 1 [])), (1, (.sl 5 (v1.2.2.2.map eSTlv)))])] = (v2.map eSTlv), (v2.map eSTlv).length * 72 ≤ 140737488355328, (v2.map eSTlv).length ≤ 9223372036854775807, Ct.Ok PX 39 ⟨[(.im (.st [(1, (eI .i64 x4)), (1, (eI .i64 x5)), (1, (eB x6)), (1, (.sl 1 [])), (1, (.sl 5 (v2.map eSTlv)))]))], [], 0, (.tup [(.im (.sl 1 (v3.1.map (eI .u8)))), (.im (.ifc 77 (.pim 2 (.st [(1, (eI .i64 v4)), (1, (.ifc 40 (eI .i64 v5)))]))))]), [], 0⟩])
          (by kernel_rfl) ⟨(df h1), (len_m eSTlv _), (dt h2), (f35_ok k x0 v1 h3), ((congr (congrArg HAppend.hAppend rfl) (show [(.st [(1, (eI .i64 v1.1)), (1, (eI .i64 v1.2.1)), (1, (eB v1.2.2.1)), (1, (.sl 1 [])), (1, (.sl 5 (v1.2.2.2.map eSTlv)))])] = [(STlv.mk v1.1 v1.2.1 v1.2.2.1 [] v1.2.2.2)].map eSTlv from by simp only [List.map_cons, List.map_nil, eSTlv_eq, STlv.Class, STlv.Tag, STlv.Made, STlv.Body, STlv.Kids])).trans (ap_map eSTlv h4)), (ap_b eSTlv h4), (ap_n eSTlv h4), (by have q := (f39_ok k (STlv.mk x4 x5 x6 [] v2) v3 h5); rw [h6] at q; exact q), trivial⟩ ⟨rfl, rfl, rfl⟩
    · rw [if_neg h2] at h
      obtain ⟨v1, h3, h⟩ := bnd h
      rcases h4 : v1.2 with _ | v2 | ⟨v2, v3⟩
      · rw [h4] at h; dsimp only [Er.on] at h
        replace h := Option.some.inj h; subst h
        exact LH.round hT hm hfn (n := 1000) (ds := [.r [], .b false, .r [(1, ⟨(.h (.int (x0.length : Int))), [], []⟩)], .b false, .r [(1, ⟨(.c false [2] ⟨[], [(.s [.k, .k, .k, (.n 1)])], [], 0, (.tup [(.im (.sl 1 (v1.1.map (eI .u8)))), (.im (.v .nilIface))]), [], 0, [], 3⟩), [], []⟩)], .k ⟨[], [], [], [], [], 0, [], []⟩])
          (r := (.fin (.tup [(.im (.sl 1 (v1.1.map (eI .u8)))), (.im (.v .nilIface))]) [] 0)) (obs := [(decide (x3 < (p0.Gone.length : Int))) = false, ((x0.map eSTlv).length : Int) = (x0.length : Int), (decide ((x0.length : Int) > 0)) = false, Ct.Ok PX 39 ⟨[(.im (.st [(1, (eI .i64 x4)), (1, (eI .i64 x5)), (1, (eB x6)), (1, (.sl 1 [])), (1, (.sl 5 (x8.map eSTlv)))]))], [], 0, (.tup [(.im (.sl 1 (v1.1.map (eI .u8)))), (.im (.v .nilIface))]), [], 0⟩])
          (by kernel_rfl) ⟨(df h1), (len_m eSTlv _), (df h2), (by have q := (f39_ok k (STlv.mk x4 x5 x6 [] x8) v1 h3); rw [h4] at q; exact q), trivial⟩ ⟨rfl, rfl, rfl⟩
      · rw [h4] at h; dsimp only [Er.on] at h
        replace h := Option.some.inj h; subst h
        exact LH.round hT hm hfn (n := 1000) (ds := [.r [], .b false, .r [(1, ⟨(.h (.int (x0.length : Int))), [], []⟩)], .b false, .r [(1, ⟨(.c false [2] ⟨[], [(.s [.k, .k, .k, (.n 1)])], [], 0, (.tup [(.im (.sl 1 (v1.1.map (eI .u8)))), (.im (.ifc 40 (eI .i64 v2)))]), [], 0, [], 3⟩), [], []⟩)], .k ⟨[], [], [], [], [], 0, [], []⟩])
          (r := (.fin (.tup [(.im (.sl 1 (v1.1.map (eI .u8)))), (.im (.ifc 40 (eI .i64 v2)))]) [] 0)) (obs := [(decide (x3 < (p0.Gone.length : Int))) = false, ((x0.map eSTlv).length : Int) = (x0.length : Int), (decide ((x0.length : Int) > 0)) = false, Ct.Ok PX 39 ⟨[(.im (.st [(1, (eI .i64 x4)), (1, (eI .i64 x5)), (1, (eB x6)), (1, (.sl 1 [])), (1, (.sl 5 (x8.map eSTlv)))]))], [], 0, (.tup [(.im (.sl 1 (v1.1.map (eI .u8)))), (.im (.ifc 40 (eI .i64 v2)))]), [], 0⟩])
          (by kernel_rfl) ⟨(df h1), (len_m eSTlv _), (df h2), (by have q := (f39_ok k (STlv.mk x4 x5 x6 [] x8) v1 h3); rw [h4] at q; exact q), trivial⟩ ⟨rfl, rfl, rfl⟩
      · rw [h4] at h; dsimp only [Er.on] at h
        replace h := Option.some.inj h; subst h
        exact LH.round hT hm hfn (n := 1000) (ds := [.r [], .b false, .r [(1, ⟨(.h (.int (x0.length : Int))), [], []⟩)], .b false, .r [(1, ⟨(.c false [2] ⟨[], [(.s [.k, .k, .k, (.n 1)])], [], 0, (.tup [(.im (.sl 1 (v1.1.map (eI .u8)))), (.im (.ifc 77 (.pim 2 (.st [(1, (eI .i64 v2)), (1, (.ifc 40 (eI .i64 v3)))]))))]), [], 0, [], 3⟩), [], []⟩)], .k ⟨[], [], [], [], [], 0, [], []⟩])
          (r := (.fin (.tup [(.im (.sl 1 (v1.1.map (eI .u8)))), (.im (.ifc 77 (.pim 2 (.st [(1, (eI .i64 v2)), (1, (.ifc 40 (eI .i64 v3)))]))))]) [] 0)) (obs := [(decide (x3 < (p0.Gone.length : Int))) = false, ((x0.map eSTlv).length : Int) = (x0.length : Int), (decide ((x0.length : Int) > 0)) = false, Ct.Ok PX 39 ⟨[(.im (.st [(1, (eI .i64 x4)), (1, (eI .i64 x5)), (1, (eB x6)), (1, (.sl 1 [])), (1, (.sl 5 (x8.map eSTlv)))]))], [], 0, (.tup [(.im (.sl 1 (v1.1.map (eI .u8)))), (.im (.ifc 77 (.pim 2 (.st [(1, (eI .i64 v2)), (1, (.ifc 40 (eI .i64 v3)))]))))]), [], 0⟩])
          (by kernel_rfl) ⟨(df h1), (len_m eSTlv _), (df h2), (by have q := (f39_ok k (STlv.mk x4 x5 x6 [] x8) v1 h3); rw [h4] at q; exact q), trivial⟩ ⟨rfl, rfl, rfl⟩

theorem f18L0_all : ∀ k, f18L0_P k
  | 0 => (by intro fn hfn _ _ _ _ _ _ _ r h; rw [f18L0] at h; cases h)
  | k + 1 => f18L0_step k (f18L0_all k)

theorem f18L0_ok (fn : Func) (hfn : fn.results = ([.t 2, .t 3].map Rv.var).toArray) (k : Nat) : ∀ (p0 : SCrl) (x0 : (List STlv)) (x3 : Int) (x4 : Int) (x5 : Int) (x6 : Bool) (x8 : (List STlv)) (r : (List Int) × Er), f18L0 k p0 x0 x3 x4 x5 x6 x8 = some r → LH PX ⟨fn, 107, 0, (.tup [(.im (.sl 1 (r.1.map (eI .u8)))), (.im (eEr r.2))]), [], 0⟩ cc18_0 [.blk 0, .seq cc18_1] (f18L0_S p0 x0 x3 x4 x5 x6 x8) := (f18L0_all k) fn hfn
end Go.Proofs.Tryd.E
end

section
namespace Go.Proofs.Tryd.E
open Go Go.Eng
set_option maxRecDepth 100000
set_option linter.unusedVariables false
def f73_1 (k : Nat) (p0 : (List STlv)) : Option (Int × Int × Bool × (List STlv)) :=
  some (0, 16, true, p0)

theorem f73_1_ok (k : Nat) : ∀ (p0 : (List STlv)) (r : Int × Int × Bool × (List STlv)), f73_1 k p0 = some r → Ct.Ok PX 73 ⟨[(.ownF 5 0)], [(0, (.row 35 5 (p0.map eSTlv) 0))], 1, (.st [(1, (.im (eI .i64 r.1))), (1, (.im (eI .i64 r.2.1))), (1, (.im (eB r.2.2.1))), (1, (.im (.v (.slice none 0 0)))), (1, (.ownF 5 1))]), [(1, (.row 35 5 (r.2.2.2.map eSTlv) 0))], 2⟩ := by
  intro p0 r h
  unfold f73_1 at h
  replace h := Option.some.inj h; subst h
  exact Ct.ofWalk hT hm F73 (by kernel_rfl) (n := 1000) (ds := [.r [], .r [], .k ⟨[], [], [], [], [(1, 0)], 2, [], []⟩])
    (r := (.fin (.st [(1, (.im (eI .i64 0))), (1, (.im (eI .i64 16))), (1, (.im (eB true))), (1, (.im (.v (.slice none 0 0)))), (1, (.ownF 5 1))]) [(1, (.row 35 5 (p0.map eSTlv) 0))] 2)) (obs := [])
    (by kernel_rfl) trivial (fun fn hfn => ⟨rfl, rfl, rfl⟩)

def f119 (k : Nat) (p0 : Int) : Option (Bool) :=
  if p0 < 32 then (
   some true)
  else (
   some (decide (p0 > 126)))

theorem f119_ok (k : Nat) : ∀ (p0 : Int) (r : Bool), f119 k p0 = some r → Ct.Ok PX 119 ⟨[(.im (eI .u8 p0))], [], 0, (.im (eB r)), [], 0⟩ := by
  intro p0 r h
  unfold f119 at h
  by_cases h1 : p0 < 32
  · rw [if_pos h1] at h
    replace h := Option.some.inj h; subst h
    exact Ct.ofWalk hT hm F119 (by kernel_rfl) (n := 1000) (ds := [.r [], .r [(3, ⟨(.h .gf), [], []⟩), (4, ⟨(.h .gf), [], []⟩), (5, ⟨(.h (.gt .no)), [], []⟩)], .k ⟨[], [], [], [], [], 0, [], []⟩])
      (r := (.fin (.im (eB true)) [] 0)) (obs := [(decide (p0 < 32)) = !false, (decide (p0 < 32)) = !false, (decide (p0 < 32)) = true])
      (by kernel_rfl) ⟨(dt h1), (dt h1), (dt h1), trivial⟩ (fun fn hfn => ⟨rfl, rfl, rfl⟩)
  · rw [if_neg h1] at h
    replace h := Option.some.inj h; subst h
    exact Ct.ofWalk hT hm F119 (by kernel_rfl) (n := 1000) (ds := [.r [], .r [(3, ⟨(.h (.gt .no)), [], []⟩), (4, ⟨(.h (.gt .no)), [], []⟩), (5, ⟨(.h .gf), [], []⟩)], .k ⟨[], [], [], [], [], 0, [], []⟩])
      (r := (.fin (.im (eB (decide (p0 > 126)))) [] 0)) (obs := [(decide (p0 < 32)) = false, (decide (p0 < 32)) = false, (decide (p0 < 32)) = false])
      (by kernel_rfl) ⟨(df h1), (df h1), (df h1), trivial⟩ (fun fn hfn => ⟨rfl, rfl, rfl⟩)

def f153L0_S (p0 : (List Int)) (x2 : Int) : S := ⟨[(0, (.im (.sl 1 (p0.map (eI .u8))))), (1, (.im (.fn 119 []))), (7, (.im (eI .i64 (p0.length : Int)))), (8, (.im (eI .i64 x2)))], [], 0⟩

def f153L0 : Nat → (List Int) → Int → Option (Int)
  | 0, _, _ => none
  | k + 1, p0, x2 =>
    if x2 < (p0.length : Int) then (
     (rd p0 x2).bind fun v1 =>
     (f119 k v1).bind fun v2 =>
     if v2 = true then (
      some x2)
     else (
      f153L0 k p0 (IntKind.wrap .i64 (x2 + 1))))
    else (
     some (-1))

def f153L0_P (k : Nat) : Prop := ∀ (fn : Func) (_ : fn.results = ([.t 4].map Rv.var).toArray), ∀ (p0 : (List Int)) (x2 : Int) (r : Int), f153L0 k p0 x2 = some r → LH PX ⟨fn, 19, 0, (.im (eI .i64 r)), [], 0⟩ cc153_0 [.blk 0, .seq cc153_1] (f153L0_S p0 x2)

theorem f153L0_step (k : Nat) (ih_f153L0 : f153L0_P k) : f153L0_P (k + 1) := by
  intro fn hfn p0 x2 r h
  rw [f153L0] at h
  by_cases h1 : x2 < (p0.length : Int)
  · rw [if_pos h1] at h
    obtain ⟨v1, h2, h⟩ := bnd h
    obtain ⟨v2, h3, h⟩ := bnd h
    by_cases h4 : v2 = true
    · rw [if_pos h4] at h
      replace h := Option.some.inj h; subst h
      exact LH.round hT hm hfn (n := 1000) (ds := [.r [], .b true, .r [], .r [(3, ⟨(.h (.iv (eI .u8 v1))), [], []⟩), (5, ⟨(.c false [] ⟨[], [], [], 0, (.im (eB v2)), [], 0, [], 0⟩), [], []⟩)], .b true, .r [], .k ⟨[], [], [], [], [], 0, [], []⟩])
        (r := (.fin (.im (eI .i64 x2)) [] 0)) (obs := [(decide (x2 < (p0.length : Int))) = true, 0 ≤ x2, (p0.map (eI .u8))[(x2).toNat]? = some (eI .u8 v1), Ct.Ok PX 119 ⟨[(.im (eI .u8 v1))], [], 0, (.im (eB v2)), [], 0⟩, v2 = true])
        (by kernel_rfl) ⟨(dt h1), (rd_nn h2), (rd_map (eI .u8) h2), (f119_ok k v1 v2 h3), h4, trivial⟩ ⟨rfl, rfl, rfl⟩
    · rw [if_neg h4] at h
      exact LH.round hT hm hfn (n := 1000) (ds := [.r [], .b true, .r [], .r [(3, ⟨(.h (.iv (eI .u8 v1))), [], []⟩), (5, ⟨(.c false [] ⟨[], [], [], 0, (.im (eB v2)), [], 0, [], 0⟩), [], []⟩)], .b false, .r [], .k ⟨[], [], [], [0, 1, 7, 8], [], 0, [], []⟩])
        (r := (.head cc153_0 [.blk 0, .seq cc153_1] (f153L0_S p0 (IntKind.wrap .i64 (x2 + 1))))) (obs := [(decide (x2 < (p0.length : Int))) = true, 0 ≤ x2, (p0.map (eI .u8))[(x2).toNat]? = some (eI .u8 v1), Ct.Ok PX 119 ⟨[(.im (eI .u8 v1))], [], 0, (.im (eB v2)), [], 0⟩, v2 = false])
        (by kernel_rfl) ⟨(dt h1), (rd_nn h2), (rd_map (eI .u8) h2), (f119_ok k v1 v2 h3), (vf h4), trivial⟩ (ih_f153L0 fn hfn p0 (IntKind.wrap .i64 (x2 + 1)) _ h)
  · rw [if_neg h1] at h
    replace h := Option.some.inj h; subst h
    exact LH.round hT hm hfn (n := 1000) (ds := [.r [], .b false, .r [], .k ⟨[], [], [], [], [], 0, [], []⟩])
      (r := (.fin (.im (eI .i64 (-1))) [] 0)) (obs := [(decide (x2 < (p0.length : Int))) = false])
      (by kernel_rfl) ⟨(df h1), trivial⟩ ⟨rfl, rfl, rfl⟩

theorem f153L0_all : ∀ k, f153L0_P k
  | 0 => (by intro fn hfn _ _ r h; rw [f153L0] at h; cases h)
  | k + 1 => f153L0_step k (f153L0_all k)

theorem f153L0_ok (fn : Func) (hfn : fn.results = ([.t 4].map Rv.var).toArray) (k : Nat) : ∀ (p0 : (List Int)) (x2 : Int) (r : Int), f153L0 k p0 x2 = some r → LH PX ⟨fn, 19, 0, (.im (eI .i64 r)), [], 0⟩ cc153_0 [.blk 0, .seq cc153_1] (f153L0_S p0 x2) := (f153L0_all k) fn hfn

def f153 (k : Nat) (p0 : (List Int)) : Option (Int) :=
  f153L0 k p0 0

theorem f153_ok (k : Nat) : ∀ (p0 : (List Int)) (r : Int), f153 k p0 = some r → Ct.Ok PX 153 ⟨[(.im (.sl 1 (p0.map (eI .u8)))), (.im (.fn 119 []))], [], 0, (.im (eI .i64 r)), [], 0⟩ := by
  intro p0 r h
  unfold f153 at h
  exact Ct.ofWalk hT hm F153 (by kernel_rfl) (n := 1000) (ds := [.r [], .r [(1, ⟨(.h (.int (p0.length : Int))), [], []⟩)], .k ⟨[], [], [], [0, 1, 7, 8], [], 0, [], []⟩])
    (r := (.head cc153_0 [.blk 0, .seq cc153_1] (f153L0_S p0 0))) (obs := [((p0.map (eI .u8)).length : Int) = (p0.length : Int)])
    (by kernel_rfl) ⟨(len_m (eI .u8) _), trivial⟩ (fun fn hfn => f153L0_ok fn hfn k p0 0 _ h)

def f118 (k : Nat) (p0 : (List Int)) : Option (Bool) :=
  (f153 k p0).bind fun v1 =>
  some (decide (v1 ≥ 0))

theorem f118_ok (k : Nat) : ∀ (p0 : (List Int)) (r : Bool), f118 k p0 = some r → Ct.Ok PX 118 ⟨[(.im (.sl 1 (p0.map (eI .u8)))), (.im (.fn 119 []))], [], 0, (.im (eB r)), [], 0⟩ := by
  intro p0 r h
  unfold f118 at h
  obtain ⟨v1, h1, h⟩ := bnd h
  replace h := Option.some.inj h; subst h
  exact Ct.ofWalk hT hm F118 (by kernel_rfl) (n := 1000) (ds := [.r [], .r [(2, ⟨(.c false [] ⟨[], [], [], 0, (.im (eI .i64 v1)), [], 0, [], 0⟩), [], []⟩)], .k ⟨[], [], [], [], [], 0, [], []⟩])
    (r := (.fin (.im (eB (decide (v1 ≥ 0)))) [] 0)) (obs := [Ct.Ok PX 153 ⟨[(.im (.sl 1 (p0.map (eI .u8)))), (.im (.fn 119 []))], [], 0, (.im (eI .i64 v1)), [], 0⟩])
    (by kernel_rfl) ⟨(f153_ok k p0 v1 h1), trivial⟩ (fun fn hfn => ⟨rfl, rfl, rfl⟩)

def f74 (k : Nat) (p0 : (List Int)) : Option (ByteArray × Er) :=
  if (p0.length : Int) > 64 then (
   some (⟨#[]⟩, (Er.code 2)))
  else (
   if (p0.length : Int) = 0 then (
    some (⟨#[]⟩, (Er.code 7)))
   else (
    (f118 k p0).bind fun v1 =>
    if v1 = true then (
     some (⟨#[]⟩, (Er.code 7)))
    else (
     some ((bytesOf p0), Er.nil))))

theorem f74_ok (k : Nat) : ∀ (p0 : (List Int)) (r : ByteArray × Er), f74 k p0 = some r → Ct.Ok PX 74 ⟨[(.im (.sl 1 (p0.map (eI .u8))))], [], 0, (.tup [(.im (eStr r.1)), (.im (eEr r.2))]), [], 0⟩ := by
  intro p0 r h
  unfold f74 at h
  by_cases h1 : (p0.length : Int) > 64
  · rw [if_pos h1] at h
    replace h := Option.some.inj h; subst h
    exact Ct.ofWalk hT hm F74 (by kernel_rfl) (n := 1000) (ds := [.r [], .r [(1, ⟨(.h (.int (p0.length : Int))), [], []⟩)], .b true, .r [], .k ⟨[], [], [], [], [], 0, [], []⟩])
      (r := (.fin (.tup [(.im (eStr ⟨#[]⟩)), (.im (.ifc 40 (eI .i64 2)))]) [] 0)) (obs := [((p0.map (eI .u8)).length : Int) = (p0.length : Int), (decide ((p0.length : Int) > 64)) = true])
      (by kernel_rfl) ⟨(len_m (eI .u8) _), (dt h1), trivial⟩ (fun fn hfn => ⟨rfl, rfl, rfl⟩)
  · rw [if_neg h1] at h
    by_cases h2 : (p0.length : Int) = 0
    · rw [if_pos h2] at h
      replace h := Option.some.inj h; subst h
      exact Ct.ofWalk hT hm F74 (by kernel_rfl) (n := 1000) (ds := [.r [], .r [(1, ⟨(.h (.int (p0.length : Int))), [], []⟩)], .b false, .r [(1, ⟨(.h (.int (p0.length : Int))), [], []⟩), (4, ⟨(.h .gf), [], []⟩), (5, ⟨(.h .gf), [], []⟩), (6, ⟨(.h (.gt .no)), [], []⟩)], .bc true, .r [], .k ⟨[], [], [], [], [], 0, [], []⟩])
        (r := (.fin (.tup [(.im (eStr ⟨#[]⟩)), (.im (.ifc 40 (eI .i64 7)))]) [] 0)) (obs := [((p0.map (eI .u8)).length : Int) = (p0.length : Int), (decide ((p0.length : Int) > 64)) = false, ((p0.map (eI .u8)).length : Int) = (p0.length : Int), ((p0.length : Int) == 0) = !false, ((p0.length : Int) == 0) = !false, ((p0.length : Int) == 0) = true])
        (by kernel_rfl) ⟨(len_m (eI .u8) _), (df h1), (len_m (eI .u8) _), (bt h2), (bt h2), (bt h2), trivial⟩ (fun fn hfn => ⟨rfl, rfl, rfl⟩)
    · rw [if_neg h2] at h
      obtain ⟨v1, h3, h⟩ := bnd h
      by_cases h4 : v1 = true
      · rw [if_pos h4] at h
        replace h := Option.some.inj h; subst h
        exact Ct.ofWalk hT hm F74 (by kernel_rfl) (n := 1000) (ds := [.r [], .r [(1, ⟨(.h (.int (p0.length : Int))), [], []⟩)], .b false, .r [(1, ⟨(.h (.int (p0.length : Int))), [], []⟩), (4, ⟨(.h (.gt .no)), [], []⟩), (5, ⟨(.c true [] ⟨[], [], [], 0, (.im (eB v1)), [], 0, [], 0⟩), [], []⟩), (6, ⟨(.h .gf), [], []⟩)], .b true, .r [], .k ⟨[], [], [], [], [], 0, [], []⟩])
          (r := (.fin (.tup [(.im (eStr ⟨#[]⟩)), (.im (.ifc 40 (eI .i64 7)))]) [] 0)) (obs := [((p0.map (eI .u8)).length : Int) = (p0.length : Int), (decide ((p0.length : Int) > 64)) = false, ((p0.map (eI .u8)).length : Int) = (p0.length : Int), ((p0.length : Int) == 0) = false, ((p0.length : Int) == 0) = false, Ct.Ok PX 118 ⟨[(.im (.sl 1 (p0.map (eI .u8)))), (.im (.fn 119 []))], [], 0, (.im (eB v1)), [], 0⟩, ((p0.length : Int) == 0) = false, v1 = true])
          (by kernel_rfl) ⟨(len_m (eI .u8) _), (df h1), (len_m (eI .u8) _), (bf h2), (bf h2), (f118_ok k p0 v1 h3), (bf h2), h4, trivial⟩ (fun fn hfn => ⟨rfl, rfl, rfl⟩)
      · rw [if_neg h4] at h
        replace h := Option.some.inj h; subst h
        exact Ct.ofWalk hT hm F74 (by kernel_rfl) (n := 1000) (ds := [.r [], .r [(1, ⟨(.h (.int (p0.length : Int))), [], []⟩)], .b false, .r [(1, ⟨(.h (.int (p0.length : Int))), [], []⟩), (4, ⟨(.h (.gt .no)), [], []⟩), (5, ⟨(.c true [] ⟨[], [], [], 0, (.im (eB v1)), [], 0, [], 0⟩), [], []⟩), (6, ⟨(.h .gf), [], []⟩)], .b false, .r [(1, ⟨(.h (.ints p0)), [], []⟩)], .k ⟨[], [], [], [], [], 0, [], []⟩])
          (r := (.fin (.tup [(.im (eStr (bytesOf p0))), (.im (.v .nilIface))]) [] 0)) (obs := [((p0.map (eI .u8)).length : Int) = (p0.length : Int), (decide ((p0.length : Int) > 64)) = false, ((p0.map (eI .u8)).length : Int) = (p0.length : Int), ((p0.length : Int) == 0) = false, ((p0.length : Int) == 0) = false, Ct.Ok PX 118 ⟨[(.im (.sl 1 (p0.map (eI .u8)))), (.im (.fn 119 []))], [], 0, (.im (eB v1)), [], 0⟩, ((p0.length : Int) == 0) = false, v1 = false, (p0.map (eI .u8)) = (p0.map fun n => IV.v (.int .u8 n))])
          (by kernel_rfl) ⟨(len_m (eI .u8) _), (df h1), (len_m (eI .u8) _), (bf h2), (bf h2), (f118_ok k p0 v1 h3), (bf h2), (vf h4), rfl, trivial⟩ (fun fn hfn => ⟨rfl, rfl, rfl⟩)

def f75 (k : Nat) (p0 : Int) : Option (Bool) :=
  if p0 = 3 then (
   some true)
  else (
   if p0 = 6 then (
    some true)
   else (
    if p0 = 10 then (
     some true)
    else (
     some (p0 == 11))))

theorem f75_ok (k : Nat) : ∀ (p0 : Int) (r : Bool), f75 k p0 = some r → Ct.Ok PX 75 ⟨[(.im (eI .i64 p0))], [], 0, (.im (eB r)), [], 0⟩ := by
  intro p0 r h
  unfold f75 at h
  by_cases h1 : p0 = 3
  · rw [if_pos h1] at h
    replace h := Option.some.inj h; subst h
    exact Ct.ofWalk hT hm F75 (by kernel_rfl) (n := 1000) (ds := [.r [], .r [(3, ⟨(.h .gf), [], []⟩), (4, ⟨(.h .gf), [], []⟩), (5, ⟨(.h (.gt .no)), [], []⟩)], .k ⟨[], [], [], [], [], 0, [], []⟩])
      (r := (.fin (.im (eB true)) [] 0)) (obs := [(p0 == 3) = !false, (p0 == 3) = !false, (p0 == 3) = true])
      (by kernel_rfl) ⟨(bt h1), (bt h1), (bt h1), trivial⟩ (fun fn hfn => ⟨rfl, rfl, rfl⟩)
  · rw [if_neg h1] at h
    by_cases h2 : p0 = 6
    · rw [if_pos h2] at h
      replace h := Option.some.inj h; subst h
      exact Ct.ofWalk hT hm F75 (by kernel_rfl) (n := 1000) (ds := [.r [], .r [(3, ⟨(.h (.gt .no)), [], []⟩), (4, ⟨(.h (.gt .no)), [], []⟩), (5, ⟨(.h .gf), [], []⟩), (7, ⟨(.h .gf), [], []⟩), (8, ⟨(.h .gf), [], []⟩), (9, ⟨(.h (.gt .no)), [], []⟩)], .k ⟨[], [], [], [], [], 0, [], []⟩])
        (r := (.fin (.im (eB true)) [] 0)) (obs := [(p0 == 3) = false, (p0 == 3) = false, (p0 == 3) = false, (p0 == 6) = !false, (p0 == 6) = !false, (p0 == 6) = true])
        (by kernel_rfl) ⟨(bf h1), (bf h1), (bf h1), (bt h2), (bt h2), (bt h2), trivial⟩ (fun fn hfn => ⟨rfl, rfl, rfl⟩)
    · rw [if_neg h2] at h
      by_cases h3 : p0 = 10
      · rw [if_pos h3] at h
        replace h := Option.some.inj h; subst h
        exact Ct.ofWalk hT hm F75 (by kernel_rfl) (n := 1000) (ds := [.r [], .r [(3, ⟨(.h (.gt .no)), [], []⟩), (4, ⟨(.h (.gt .no)), [], []⟩), (5, ⟨(.h .gf), [], []⟩), (7, ⟨(.h (.gt .no)), [], []⟩), (8, ⟨(.h (.gt .no)), [], []⟩), (9, ⟨(.h .gf), [], []⟩), (11, ⟨(.h .gf), [], []⟩), (12, ⟨(.h .gf), [], []⟩), (13, ⟨(.h (.gt .no)), [], []⟩)], .k ⟨[], [], [], [], [], 0, [], []⟩])
          (r := (.fin (.im (eB true)) [] 0)) (obs := [(p0 == 3) = false, (p0 == 3) = false, (p0 == 3) = false, (p0 == 6) = false, (p0 == 6) = false, (p0 == 6) = false, (p0 == 10) = !false, (p0 == 10) = !false, (p0 == 10) = true])
          (by kernel_rfl) ⟨(bf h1), (bf h1), (bf h1), (bf h2), (bf h2), (bf h2), (bt h3), (bt h3), (bt h3), trivial⟩ (fun fn hfn => ⟨rfl, rfl, rfl⟩)
      · rw [if_neg h3] at h
        replace h := Option.some.inj h; subst h
        exact Ct.ofWalk hT hm F75 (by kernel_rfl) (n := 1000) (ds := [.r [], .r [(3, ⟨(.h (.gt .no)), [], []⟩), (4, ⟨(.h (.gt .no)), [], []⟩), (5, ⟨(.h .gf), [], []⟩), (7, ⟨(.h (.gt .no)), [], []⟩), (8, ⟨(.h (.gt .no)), [], []⟩), (9, ⟨(.h .gf), [], []⟩), (11, ⟨(.h (.gt .no)), [], []⟩), (12, ⟨(.h (.gt .no)), [], []⟩), (13, ⟨(.h .gf), [], []⟩)], .k ⟨[], [], [], [], [], 0, [], []⟩])
          (r := (.fin (.im (eB (p0 == 11))) [] 0)) (obs := [(p0 == 3) = false, (p0 == 3) = false, (p0 == 3) = false, (p0 == 6) = false, (p0 == 6) = false, (p0 == 6) = false, (p0 == 10) = false, (p0 == 10) = false, (p0 == 10) = false])
          (by kernel_rfl) ⟨(bf h1), (bf h1), (bf h1), (bf h2), (bf h2), (bf h2), (bf h3), (bf h3), (bf h3), trivial⟩ (fun fn hfn => ⟨rfl, rfl, rfl⟩)
end Go.Proofs.Tryd.E
end

section
namespace Go.Proofs.Tryd.E
open Go Go.Eng
set_option maxRecDepth 100000
set_option linter.unusedVariables false
def f33L0_S (p0 : (List SPart)) (x2 : Int) (x8 : Int) (x9 : Int) (x10 : Bool) (x12 : (List STlv)) : S := ⟨[(2, (.ref 0 [])), (4, (.ref 1 [])), (16, (.im (.sl 2 (p0.map eSPart)))), (17, (.im (eI .i64 (p0.length : Int)))), (18, (.im (eI .i64 x2)))], [(0, (.box false 5 (.im (.st [(1, (eI .i64 0)), (1, (eI .i64 0)), (1, (eB false)), (1, (.v (.slice none 0 0))), (1, (.v (.slice none 0 0)))])))), (1, (.box false 5 (.st [(1, (.im (eI .i64 x8))), (1, (.im (eI .i64 x9))), (1, (.im (eB x10))), (1, (.im (.v (.slice none 0 0)))), (1, (.ownF 5 2))]))), (2, (.row 35 5 (x12.map eSTlv) 0))], 3⟩

def f33L0 : Nat → (List SPart) → Int → Int → Int → Bool → (List STlv) → Option (STlv × Er)
  | 0, _, _, _, _, _, _ => none
  | k + 1, p0, x2, x8, x9, x10, x12 =>
    if x2 < (p0.length : Int) then (
     (rd p0 x2).bind fun v1 =>
     (f74 k (ints v1.Text)).bind fun v2 =>
     Er.on v2.2 (
      (f75 k v1.Kind).bind fun v3 =>
      if v3 = true then (
       (f73_1 k [(STlv.mk 0 6 false [85, 4, (IntKind.wrap .u8 v1.Kind)] []), (STlv.mk 0 12 false (ints v1.Text) [])]).bind fun v4 =>
       (ap 72 x12 [(STlv.mk 0 17 true [] [(STlv.mk v4.1 v4.2.1 v4.2.2.1 [] v4.2.2.2)])]).bind fun v5 =>
       f33L0 k p0 (IntKind.wrap .i64 (x2 + 1)) x8 x9 x10 v5)
      else (
       some ((STlv.mk 0 0 false [] []), (Er.code 1))))
      (fun v3 =>
      some ((STlv.mk 0 0 false [] []), (Er.code 1)))
      (fun v3 v4 =>
      some ((STlv.mk 0 0 false [] []), (Er.code 1))))
    else (
     some ((STlv.mk x8 x9 x10 [] x12), Er.nil))

def f33L0_P (k : Nat) : Prop := ∀ (fn : Func) (_ : fn.results = ([.c 2 35, .t 3].map Rv.var).toArray), ∀ (p0 : (List SPart)) (x2 : Int) (x8 : Int) (x9 : Int) (x10 : Bool) (x12 : (List STlv)) (r : STlv × Er), f33L0 k p0 x2 x8 x9 x10 x12 = some r → LH PX ⟨fn, 60, 0, (.tup [(.im (.st [(1, (eI .i64 r.1.Class)), (1, (eI .i64 r.1.Tag)), (1, (eB r.1.Made)), (1, (.sl 1 (r.1.Body.map (eI .u8)))), (1, (.sl 5 (r.1.Kids.map eSTlv)))])), (.im (eEr r.2))]), [], 0⟩ cc33_0 [.blk 0, .seq cc33_1] (f33L0_S p0 x2 x8 x9 x10 x12)

theorem f33L0_step (k : Nat) (ih_f33L0 : f33L0_P k) : f33L0_P (k + 1) := by
  intro fn hfn p0 x2 x8 x9 x10 x12 r h
  rw [f33L0] at h
  by_cases h1 : x2 < (p0.length : Int)
  · rw [if_pos h1] at h
    obtain ⟨v1, h2, h⟩ := bnd h
    obtain ⟨v2, h3, h⟩ := bnd h
    rcases h4 : v2.2 with _ | v3 | ⟨v3, v4⟩
    · rw [h4] at h; dsimp only [Er.on] at h
      obtain ⟨v3, h5, h⟩ := bnd h
      by_cases h6 : v3 = true
      · rw [if_pos h6] at h
        obtain ⟨v4, h7, h⟩ := bnd h
        obtain ⟨v5, h8, h⟩ := bnd h
        exact LH.round hT hm hfn (n := 1000) (ds := [.r [], .b true, .r [(0, ⟨(.h (.iv (.st [(1, (eI .i64 v1.Kind)), (1, (eStr v1.Text))]))), [], []⟩)], .r [(2, ⟨(.h (.ints (ints v1.Text))), [], []⟩), (3, ⟨(.c false [] ⟨[], [], [], 0, (.tup [(.im (eStr v2.1)), (.im (.v .nilIface))]), [], 0, [], 4⟩), [], []⟩)], .r [(5, ⟨(.c true [] ⟨[], [], [], 0, (.im (eB v3)), [], 0, [], 4⟩), [], []⟩)], .b false, .r [(7, ⟨(.h (.ints (ints v1.Text))), [], []⟩), (9, ⟨.a, [.ps [(5, (.s [(.s [.k, .k, .k, .k, (.n 5)]), (.s [.k, .k, .k, .k, (.n 5)])]))]], []⟩), (10, ⟨(.c false [] ⟨[(0, 5)], [], [(0, (.e (.arr 0 ([(STlv.mk 0 6 false [85, 4, (IntKind.wrap .u8 v1.Kind)] []), (STlv.mk 0 12 false (ints v1.Text) [])].map eSTlv))))], 1, (.st [(1, (.im (eI .i64 v4.1))), (1, (.im (eI .i64 v4.2.1))), (1, (.im (eB v4.2.2.1))), (1, (.im (.v (.slice none 0 0)))), (1, (.ownF 5 1))]), [(1, (.row 35 5 (v4.2.2.2.map eSTlv) 0))], 2, [(6, 1)], 7⟩), [], []⟩)], .r [(3, ⟨.a, [.ps [(8, (.s [(.s [.k, .k, .k, (.n 1)])]))]], []⟩), (5, ⟨.a, [.ps [(9, (.s [(.s [.k, .k, .k, (.n 1)])]))]], []⟩), (6, ⟨(.h (.ivs (v5.map eSTlv))), [], []⟩)], .r [], .k ⟨[], [], [], [2, 4, 16, 17, 18], [(0, 0), (1, 1), (2, 10)], 3, [], []⟩])
          (r := (.head cc33_0 [.blk 0, .seq cc33_1] (f33L0_S p0 (IntKind.wrap .i64 (x2 + 1)) x8 x9 x10 v5))) (obs := [(decide (x2 < (p0.length : Int))) = true, 0 ≤ x2, (p0.map eSPart)[(x2).toNat]? = some (.st [(1, (eI .i64 v1.Kind)), (1, (eStr v1.Text))]), bytesOf (ints v1.Text) = v1.Text, ∀ n ∈ ints v1.Text, 0 ≤ n ∧ n < 256, Ct.Ok PX 74 ⟨[(.im (.sl 1 ((ints v1.Text).map (eI .u8))))], [], 0, (.tup [(.im (eStr v2.1)), (.im (.v .nilIface))]), [], 0⟩, false = false, Ct.Ok PX 75 ⟨[(.im (eI .i64 v1.Kind))], [], 0, (.im (eB v3)), [], 0⟩, (!v3) = false, bytesOf (ints v1.Text) = v1.Text, ∀ n ∈ ints v1.Text, 0 ≤ n ∧ n < 256, Ct.Ok PX 73 ⟨[(.ownF 5 0)], [(0, (.row 35 5 ([(STlv.mk 0 6 false [85, 4, (IntKind.wrap .u8 v1.Kind)] []), (STlv.mk 0 12 false (ints v1.Text) [])].map eSTlv) 0))], 1, (.st [(1, (.im (eI .i64 v4.1))), (1, (.im (eI .i64 v4.2.1))), (1, (.im (eB v4.2.2.1))), (1, (.im (.v (.slice none 0 0)))), (1, (.ownF 5 1))]), [(1, (.row 35 5 (v4.2.2.2.map eSTlv) 0))], 2⟩, [(.st [(1, (eI .i64 0)), (1, (eI .i64 6)), (1, (eB false)), (1, (.sl 1 [(eI .u8 85), (eI .u8 4), (eI .u8 (IntKind.wrap .u8 v1.Kind))])), (1, (.sl 5 []))]), (.st [(1, (eI .i64 0)), (1, (eI .i64 12)), (1, (eB false)), (1, (.sl 1 ((ints v1.Text).map (eI .u8)))), (1, (.sl 5 []))])] = ([(STlv.mk 0 6 false [85, 4, (IntKind.wrap .u8 v1.Kind)] []), (STlv.mk 0 12 false (ints v1.Text) [])].map eSTlv), (x12.map eSTlv) ++ [(.st [(1, (eI .i64 0)), (1, (eI .i64 17)), (1, (eB true)), (1, (.sl 1 [])), (1, (.sl 5 [(.st [(1, (eI .i64 v4.1)), (1, (eI .i64 v4.2.1)), (1, (eB v4.2.2.1)), (1, (.sl 1 [])), (1, (.sl 5 (v4.2.2.2.map eSTlv)))])]))])] = (v5.map eSTlv), (v5.map eSTlv).length * 72 ≤ 140737488355328, (v5.map eSTlv).length ≤ 9223372036854775807])
          (by kernel_rfl) ⟨(dt h1), (rd_nn h2), (rd_map eSPart h2), (ints_ok _), (ints_rng _), (by have q := (f74_ok k (ints v1.Text) v2 h3); rw [h4] at q; exact q), rfl, (f75_ok k v1.Kind v3 h5), (not_f h6), (ints_ok _), (ints_rng _), (f73_1_ok k [(STlv.mk 0 6 false [85, 4, (IntKind.wrap .u8 v1.Kind)] []), (STlv.mk 0 12 false (ints v1.Text) [])] v4 h7), (show [(.st [(1, (eI .i64 0)), (1, (eI .i64 6)), (1, (eB false)), (1, (.sl 1 [(eI .u8 85), (eI .u8 4), (eI .u8 (IntKind.wrap .u8 v1.Kind))])), (1, (.sl 5 []))]), (.st [(1, (eI .i64 0)), (1, (eI .i64 12)), (1, (eB false)), (1, (.sl 1 ((ints v1.Text).map (eI .u8)))), (1, (.sl 5 []))])] = [(STlv.mk 0 6 false [85, 4, (IntKind.wrap .u8 v1.Kind)] []), (STlv.mk 0 12 false (ints v1.Text) [])].map eSTlv from by simp only [List.map_cons, List.map_nil, eSTlv_eq, STlv.Class, STlv.Tag, STlv.Made, STlv.Body, STlv.Kids]), ((congr (congrArg HAppend.hAppend rfl) (show [(.st [(1, (eI .i64 0)), (1, (eI .i64 17)), (1, (eB true)), (1, (.sl 1 [])), (1, (.sl 5 [(.st [(1, (eI .i64 v4.1)), (1, (eI .i64 v4.2.1)), (1, (eB v4.2.2.1)), (1, (.sl 1 [])), (1, (.sl 5 (v4.2.2.2.map eSTlv)))])]))])] = [(STlv.mk 0 17 true [] [(STlv.mk v4.1 v4.2.1 v4.2.2.1 [] v4.2.2.2)])].map eSTlv from by simp only [List.map_cons, List.map_nil, eSTlv_eq, STlv.Class, STlv.Tag, STlv.Made, STlv.Body, STlv.Kids])).trans (ap_map eSTlv h8)), (ap_b eSTlv h8), (ap_n eSTlv h8), trivial⟩ (ih_f33L0 fn hfn p0 (IntKind.wrap .i64 (x2 + 1)) x8 x9 x10 v5 _ h)
      · rw [if_neg h6] at h
        replace h := Option.some.inj h; subst h
        exact LH.round hT hm hfn (n := 1000) (ds := [.r [], .b true, .r [(0, ⟨(.h (.iv (.st [(1, (eI .i64 v1.Kind)), (1, (eStr v1.Text))]))), [], []⟩)], .r [(2, ⟨(.h (.ints (ints v1.Text))), [], []⟩), (3, ⟨(.c false [] ⟨[], [], [], 0, (.tup [(.im (eStr v2.1)), (.im (.v .nilIface))]), [], 0, [], 4⟩), [], []⟩)], .r [(5, ⟨(.c true [] ⟨[], [], [], 0, (.im (eB v3)), [], 0, [], 4⟩), [], []⟩)], .b true, .r [], .k ⟨[], [], [], [], [], 0, [(0, (.s [(.s [.k, .k, .k, (.n 1), (.n 5)])]))], []⟩])
          (r := (.fin (.tup [(.im (.st [(1, (eI .i64 0)), (1, (eI .i64 0)), (1, (eB false)), (1, (.sl 1 [])), (1, (.sl 5 []))])), (.im (.ifc 40 (eI .i64 1)))]) [] 0)) (obs := [(decide (x2 < (p0.length : Int))) = true, 0 ≤ x2, (p0.map eSPart)[(x2).toNat]? = some (.st [(1, (eI .i64 v1.Kind)), (1, (eStr v1.Text))]), bytesOf (ints v1.Text) = v1.Text, ∀ n ∈ ints v1.Text, 0 ≤ n ∧ n < 256, Ct.Ok PX 74 ⟨[(.im (.sl 1 ((ints v1.Text).map (eI .u8))))], [], 0, (.tup [(.im (eStr v2.1)), (.im (.v .nilIface))]), [], 0⟩, false = false, Ct.Ok PX 75 ⟨[(.im (eI .i64 v1.Kind))], [], 0, (.im (eB v3)), [], 0⟩, (!v3) = true])
          (by kernel_rfl) ⟨(dt h1), (rd_nn h2), (rd_map eSPart h2), (ints_ok _), (ints_rng _), (by have q := (f74_ok k (ints v1.Text) v2 h3); rw [h4] at q; exact q), rfl, (f75_ok k v1.Kind v3 h5), (not_t (vf h6)), trivial⟩ ⟨rfl, rfl, rfl⟩
    · rw [h4] at h; dsimp only [Er.on] at h
      replace h := Option.some.inj h; subst h
      exact LH.round hT hm hfn (n := 1000) (ds := [.r [], .b true, .r [(0, ⟨(.h (.iv (.st [(1, (eI .i64 v1.Kind)), (1, (eStr v1.Text))]))), [], []⟩)], .r [(2, ⟨(.h (.ints (ints v1.Text))), [], []⟩), (3, ⟨(.c false [] ⟨[], [], [], 0, (.tup [(.im (eStr v2.1)), (.im (.ifc 40 (eI .i64 v3)))]), [], 0, [], 4⟩), [], []⟩)], .r [], .bc true, .r [], .k ⟨[], [], [], [], [], 0, [(0, (.s [(.s [.k, .k, .k, (.n 1), (.n 5)])]))], []⟩])
        (r := (.fin (.tup [(.im (.st [(1, (eI .i64 0)), (1, (eI .i64 0)), (1, (eB false)), (1, (.sl 1 [])), (1, (.sl 5 []))])), (.im (.ifc 40 (eI .i64 1)))]) [] 0)) (obs := [(decide (x2 < (p0.length : Int))) = true, 0 ≤ x2, (p0.map eSPart)[(x2).toNat]? = some (.st [(1, (eI .i64 v1.Kind)), (1, (eStr v1.Text))]), bytesOf (ints v1.Text) = v1.Text, ∀ n ∈ ints v1.Text, 0 ≤ n ∧ n < 256, Ct.Ok PX 74 ⟨[(.im (.sl 1 ((ints v1.Text).map (eI .u8))))], [], 0, (.tup [(.im (eStr v2.1)), (.im (.ifc 40 (eI .i64 v3)))]), [], 0⟩])
        (by kernel_rfl) ⟨(dt h1), (rd_nn h2), (rd_map eSPart h2), (ints_ok _), (ints_rng _), (by have q := (f74_ok k (ints v1.Text) v2 h3); rw [h4] at q; exact q), trivial⟩ ⟨rfl, rfl, rfl⟩
    · rw [h4] at h; dsimp only [Er.on] at h
      replace h := Option.some.inj h; subst h
      exact LH.round hT hm hfn (n := 1000) (ds := [.r [], .b true, .r [(0, ⟨(.h (.iv (.st [(1, (eI .i64 v1.Kind)), (1, (eStr v1.Text))]))), [], []⟩)], .r [(2, ⟨(.h (.ints (ints v1.Text))), [], []⟩), (3, ⟨(.c false [] ⟨[], [], [], 0, (.tup [(.im (eStr v2.1)), (.im (.ifc 77 (.pim 2 (.st [(1, (eI .i64 v3)), (1, (.ifc 40 (eI .i64 v4)))]))))]), [], 0, [], 4⟩), [], []⟩)], .r [], .bc true, .r [], .k ⟨[], [], [], [], [], 0, [(0, (.s [(.s [.k, .k, .k, (.n 1), (.n 5)])]))], []⟩])
        (r := (.fin (.tup [(.im (.st [(1, (eI .i64 0)), (1, (eI .i64 0)), (1, (eB false)), (1, (.sl 1 [])), (1, (.sl 5 []))])), (.im (.ifc 40 (eI .i64 1)))]) [] 0)) (obs := [(decide (x2 < (p0.length : Int))) = true, 0 ≤ x2, (p0.map eSPart)[(x2).toNat]? = some (.st [(1, (eI .i64 v1.Kind)), (1, (eStr v1.Text))]), bytesOf (ints v1.Text) = v1.Text, ∀ n ∈ ints v1.Text, 0 ≤ n ∧ n < 256, Ct.Ok PX 74 ⟨[(.im (.sl 1 ((ints v1.Text).map (eI .u8))))], [], 0, (.tup [(.im (eStr v2.1)), (.im (.ifc 77 (.pim 2 (.st [(1, (eI .i64 v3)), (1, (.ifc 40 (eI .i64 v4)))]))))]), [], 0⟩])
        (by kernel_rfl) ⟨(dt h1), (rd_nn h2), (rd_map eSPart h2), (ints_ok _), (ints_rng _), (by have q := (f74_ok k (ints v1.Text) v2 h3); rw [h4] at q; exact q), trivial⟩ ⟨rfl, rfl, rfl⟩
  · rw [if_neg h1] at h
    replace h := Option.some.inj h; subst h
    exact LH.round hT hm hfn (n := 1000) (ds := [.r [], .b false, .r [], .k ⟨[], [], [2], [], [], 0, [(0, (.s [(.s [.k, .k, .k, (.n 1)])]))], []⟩])
      (r := (.fin (.tup [(.im (.st [(1, (eI .i64 x8)), (1, (eI .i64 x9)), (1, (eB x10)), (1, (.sl 1 [])), (1, (.sl 5 (x12.map eSTlv)))])), (.im (.v .nilIface))]) [] 0)) (obs := [(decide (x2 < (p0.length : Int))) = false])
      (by kernel_rfl) ⟨(df h1), trivial⟩ ⟨rfl, rfl, rfl⟩

theorem f33L0_all : ∀ k, f33L0_P k
  | 0 => (by intro fn hfn _ _ _ _ _ _ r h; rw [f33L0] at h; cases h)
  | k + 1 => f33L0_step k (f33L0_all k)

theorem f33L0_ok (fn : Func) (hfn : fn.results = ([.c 2 35, .t 3].map Rv.var).toArray) (k : Nat) : ∀ (p0 : (List SPart)) (x2 : Int) (x8 : Int) (x9 : Int) (x10 : Bool) (x12 : (List STlv)) (r : STlv × Er), f33L0 k p0 x2 x8 x9 x10 x12 = some r → LH PX ⟨fn, 60, 0, (.tup [(.im (.st [(1, (eI .i64 r.1.Class)), (1, (eI .i64 r.1.Tag)), (1, (eB r.1.Made)), (1, (.sl 1 (r.1.Body.map (eI .u8)))), (1, (.sl 5 (r.1.Kids.map eSTlv)))])), (.im (eEr r.2))]), [], 0⟩ cc33_0 [.blk 0, .seq cc33_1] (f33L0_S p0 x2 x8 x9 x10 x12) := (f33L0_all k) fn hfn

def f73 (k : Nat) : Option (Int × Int × Bool) :=
  some (0, 16, true)

theorem f73_ok (k : Nat) : ∀  (r : Int × Int × Bool), f73 k = some r → Ct.Ok PX 73 ⟨[(.im (.v (.slice none 0 0)))], [], 0, (.im (.st [(1, (eI .i64 r.1)), (1, (eI .i64 r.2.1)), (1, (eB r.2.2)), (1, (.v (.slice none 0 0))), (1, (.v (.slice none 0 0)))])), [], 0⟩ := by
  intro r h
  unfold f73 at h
  replace h := Option.some.inj h; subst h
  exact Ct.ofWalk hT hm F73 (by kernel_rfl) (n := 1000) (ds := [.r [], .r [], .k ⟨[], [], [], [], [], 0, [], []⟩])
    (r := (.fin (.im (.st [(1, (eI .i64 0)), (1, (eI .i64 16)), (1, (eB true)), (1, (.v (.slice none 0 0))), (1, (.v (.slice none 0 0)))])) [] 0)) (obs := [])
    (by kernel_rfl) trivial (fun fn hfn => ⟨rfl, rfl, rfl⟩)
end Go.Proofs.Tryd.E
end

section
namespace Go.Proofs.Tryd.E
open Go Go.Eng
set_option maxRecDepth 100000
set_option linter.unusedVariables false
def f33 (k : Nat) (p0 : (List SPart)) : Option (STlv × Er) :=
  if (p0.length : Int) > 8 then (
   some ((STlv.mk 0 0 false [] []), (Er.code 1)))
  else (
   (f73 k).bind fun v1 =>
   f33L0 k p0 0 v1.1 v1.2.1 v1.2.2 [])

theorem f33_ok (k : Nat) : ∀ (p0 : (List SPart)) (r : STlv × Er), f33 k p0 = some r → Ct.Ok PX 33 ⟨[(.im (.sl 2 (p0.map eSPart)))], [], 0, (.tup [(.im (.st [(1, (eI .i64 r.1.Class)), (1, (eI .i64 r.1.Tag)), (1, (eB r.1.Made)), (1, (.sl 1 (r.1.Body.map (eI .u8)))), (1, (.sl 5 (r.1.Kids.map eSTlv)))])), (.im (eEr r.2))]), [], 0⟩ := by
  intro p0 r h
  unfold f33 at h
  by_cases h1 : (p0.length : Int) > 8
  · rw [if_pos h1] at h
    replace h := Option.some.inj h; subst h
    exact Ct.ofWalk hT hm F33 (by kernel_rfl) (n := 1000) (ds := [.r [], .r [(1, ⟨(.h (.int (p0.length : Int))), [], []⟩)], .b true, .r [], .k ⟨[], [], [], [], [], 0, [(0, (.s [(.s [.k, .k, .k, (.n 1), (.n 5)])]))], []⟩])
      (r := (.fin (.tup [(.im (.st [(1, (eI .i64 0)), (1, (eI .i64 0)), (1, (eB false)), (1, (.sl 1 [])), (1, (.sl 5 []))])), (.im (.ifc 40 (eI .i64 1)))]) [] 0)) (obs := [((p0.map eSPart).length : Int) = (p0.length : Int), (decide ((p0.length : Int) > 8)) = true])
      (by kernel_rfl) ⟨(len_m eSPart _), (dt h1), trivial⟩ (fun fn hfn => ⟨rfl, rfl, rfl⟩)
  · rw [if_neg h1] at h
    obtain ⟨v1, h2, h⟩ := bnd h
    exact Ct.ofWalk hT hm F33 (by kernel_rfl) (n := 1000) (ds := [.r [], .r [(1, ⟨(.h (.int (p0.length : Int))), [], []⟩)], .b false, .r [(0, ⟨(.c false [] ⟨[], [], [], 0, (.im (.st [(1, (eI .i64 v1.1)), (1, (eI .i64 v1.2.1)), (1, (eB v1.2.2)), (1, (.v (.slice none 0 0))), (1, (.v (.slice none 0 0)))])), [], 0, [], 1⟩), [], []⟩)], .r [(1, ⟨(.h (.int (p0.length : Int))), [], []⟩)], .k ⟨[(1, [4], 35, 5)], [], [], [2, 4, 16, 17, 18], [(0, 0), (1, 1), (2, 2)], 3, [], []⟩])
      (r := (.head cc33_0 [.blk 0, .seq cc33_1] (f33L0_S p0 0 v1.1 v1.2.1 v1.2.2 []))) (obs := [((p0.map eSPart).length : Int) = (p0.length : Int), (decide ((p0.length : Int) > 8)) = false, Ct.Ok PX 73 ⟨[(.im (.v (.slice none 0 0)))], [], 0, (.im (.st [(1, (eI .i64 v1.1)), (1, (eI .i64 v1.2.1)), (1, (eB v1.2.2)), (1, (.v (.slice none 0 0))), (1, (.v (.slice none 0 0)))])), [], 0⟩, ((p0.map eSPart).length : Int) = (p0.length : Int)])
      (by kernel_rfl) ⟨(len_m eSPart _), (df h1), (f73_ok k v1 h2), (len_m eSPart _), trivial⟩ (fun fn hfn => f33L0_ok fn hfn k p0 0 v1.1 v1.2.1 v1.2.2 [] _ h)

def f36 (k : Nat) : Option (STlv) :=
  (f77 k 2 [1]).bind fun v1 =>
  some v1

theorem f36_ok (k : Nat) : ∀  (r : STlv), f36 k = some r → Ct.Ok PX 36 ⟨[], [], 0, (.im (.st [(1, (eI .i64 r.Class)), (1, (eI .i64 r.Tag)), (1, (eB r.Made)), (1, (.sl 1 (r.Body.map (eI .u8)))), (1, (.sl 5 (r.Kids.map eSTlv)))])), [], 0⟩ := by
  intro r h
  unfold f36 at h
  obtain ⟨v1, h1, h⟩ := bnd h
  replace h := Option.some.inj h; subst h
  exact Ct.ofWalk hT hm F36 (by kernel_rfl) (n := 1000) (ds := [.r [], .r [(1, ⟨(.c false [1] ⟨[], [], [], 0, (.im (.st [(1, (eI .i64 v1.Class)), (1, (eI .i64 v1.Tag)), (1, (eB v1.Made)), (1, (.sl 1 (v1.Body.map (eI .u8)))), (1, (.sl 5 (v1.Kids.map eSTlv)))])), [], 0, [], 2⟩), [], []⟩)], .k ⟨[], [], [], [], [], 0, [], []⟩])
    (r := (.fin (.im (.st [(1, (eI .i64 v1.Class)), (1, (eI .i64 v1.Tag)), (1, (eB v1.Made)), (1, (.sl 1 (v1.Body.map (eI .u8)))), (1, (.sl 5 (v1.Kids.map eSTlv)))])) [] 0)) (obs := [Ct.Ok PX 77 ⟨[(.im (eI .i64 2)), (.im (.sl 1 [(eI .u8 1)]))], [], 0, (.im (.st [(1, (eI .i64 v1.Class)), (1, (eI .i64 v1.Tag)), (1, (eB v1.Made)), (1, (.sl 1 (v1.Body.map (eI .u8)))), (1, (.sl 5 (v1.Kids.map eSTlv)))])), [], 0⟩])
    (by kernel_rfl) ⟨(f77_ok k 2 [1] v1 h1), trivial⟩ (fun fn hfn => ⟨rfl, rfl, rfl⟩)
end Go.Proofs.Tryd.E
end

section
namespace Go.Proofs.Tryd.E
open Go Go.Eng
set_option maxRecDepth 100000
set_option linter.unusedVariables false
def f123L0_S (p0 : (List Int)) (x1 : (List Int)) (x2 : (List Int)) (x3 : Int) (x4 : Int) : S := ⟨[(0, (.im (.sl 1 (p0.map (eI .u64))))), (4, (.ownF 1 0)), (42, (.im (.sl 1 (x2.map (eI .u64))))), (43, (.im (eI .i64 x3))), (44, (.im (eI .i64 x4)))], [(0, (.row 5 1 (x1.map (eI .u8)) 0))], 1⟩

def f123L1_S (p0 : (List Int)) (x1 : (List Int)) (x2 : Int) (x3 : Int) (x4 : (List Int)) (x5 : Int) (x6 : Int) : S := ⟨[(0, (.im (.sl 1 (p0.map (eI .u64))))), (4, (.ownF 1 0)), (6, (.im (eI .u64 x2))), (7, (.im (eI .i64 x3))), (42, (.im (.sl 1 (x4.map (eI .u64))))), (43, (.im (eI .i64 x5))), (44, (.im (eI .i64 x6)))], [(0, (.row 5 1 (x1.map (eI .u8)) 0))], 1⟩

def f123L2_S (p0 : (List Int)) (x1 : (List Int)) (x2 : Int) (x3 : Int) (x4 : (List Int)) (x5 : Int) (x6 : Int) : S := ⟨[(0, (.im (.sl 1 (p0.map (eI .u64))))), (4, (.ownF 1 0)), (6, (.im (eI .u64 x2))), (8, (.im (eI .i64 x3))), (42, (.im (.sl 1 (x4.map (eI .u64))))), (43, (.im (eI .i64 x5))), (44, (.im (eI .i64 x6)))], [(0, (.row 5 1 (x1.map (eI .u8)) 0))], 1⟩

mutual
def f123L0 : Nat → (List Int) → (List Int) → (List Int) → Int → Int → Option ((List Int) × Er)
  | 0, _, _, _, _, _ => none
  | k + 1, p0, x1, x2, x3, x4 =>
    if x4 < x3 then (
     (rd x2 x4).bind fun v1 =>
     if x4 = 0 then (
      (rd p0 0).bind fun v2 =>
      f123L1 k p0 x1 (IntKind.wrap .u64 (v1 + (IntKind.wrap .u64 (40 * v2)))) 1 x2 x3 x4)
     else (
      f123L1 k p0 x1 v1 1 x2 x3 x4))
    else (
     some (x1, Er.nil))
def f123L1 : Nat → (List Int) → (List Int) → Int → Int → (List Int) → Int → Int → Option ((List Int) × Er)
  | 0, _, _, _, _, _, _, _ => none
  | k + 1, p0, x1, x2, x3, x4, x5, x6 =>
    (up (0 ≤ (IntKind.wrap .i64 (7 * x3)))).bind fun _ =>
    if (shrI .u64 x2 (IntKind.wrap .i64 (7 * x3))) > 0 then (
     f123L1 k p0 x1 x2 (IntKind.wrap .i64 (x3 + 1)) x4 x5 x6)
    else (
     f123L2 k p0 x1 x2 (IntKind.wrap .i64 (x3 - 1)) x4 x5 x6)
def f123L2 : Nat → (List Int) → (List Int) → Int → Int → (List Int) → Int → Int → Option ((List Int) × Er)
  | 0, _, _, _, _, _, _, _ => none
  | k + 1, p0, x1, x2, x3, x4, x5, x6 =>
    if x3 ≥ 0 then (
     (up (0 ≤ (IntKind.wrap .i64 (7 * x3)))).bind fun _ =>
     if x3 > 0 then (
      (ap 1 x1 [(bitI .or .u8 (bitI .and .u8 (IntKind.wrap .u8 (shrI .u64 x2 (IntKind.wrap .i64 (7 * x3)))) 127) 128)]).bind fun v1 =>
      f123L2 k p0 v1 x2 (IntKind.wrap .i64 (x3 - 1)) x4 x5 x6)
     else (
      (ap 1 x1 [(bitI .and .u8 (IntKind.wrap .u8 (shrI .u64 x2 (IntKind.wrap .i64 (7 * x3)))) 127)]).bind fun v1 =>
      f123L2 k p0 v1 x2 (IntKind.wrap .i64 (x3 - 1)) x4 x5 x6))
    else (
     f123L0 k p0 x1 x4 x5 (IntKind.wrap .i64 (x6 + 1)))
end

def f123L0_P (k : Nat) : Prop := ∀ (fn : Func) (_ : fn.results = ([.t 2, .t 3].map Rv.var).toArray), ∀ (p0 : (List Int)) (x1 : (List Int)) (x2 : (List Int)) (x3 : Int) (x4 : Int) (r : (List Int) × Er), f123L0 k p0 x1 x2 x3 x4 = some r → LH PX ⟨fn, 86, 0, (.tup [(.im (.sl 1 (r.1.map (eI .u8)))), (.im (eEr r.2))]), [], 0⟩ cc123_0 [.blk 0, .seq cc123_1] (f123L0_S p0 x1 x2 x3 x4)

def f123L1_P (k : Nat) : Prop := ∀ (fn : Func) (_ : fn.results = ([.t 2, .t 3].map Rv.var).toArray), ∀ (p0 : (List Int)) (x1 : (List Int)) (x2 : Int) (x3 : Int) (x4 : (List Int)) (x5 : Int) (x6 : Int) (r : (List Int) × Er), f123L1 k p0 x1 x2 x3 x4 x5 x6 = some r → LH PX ⟨fn, 86, 0, (.tup [(.im (.sl 1 (r.1.map (eI .u8)))), (.im (eEr r.2))]), [], 0⟩ cc123_2 [.blk 2, .seq cc123_3, .blk 1, .seq cc123_4, .loop cc123_0, .blk 0, .seq cc123_1] (f123L1_S p0 x1 x2 x3 x4 x5 x6)

def f123L2_P (k : Nat) : Prop := ∀ (fn : Func) (_ : fn.results = ([.t 2, .t 3].map Rv.var).toArray), ∀ (p0 : (List Int)) (x1 : (List Int)) (x2 : Int) (x3 : Int) (x4 : (List Int)) (x5 : Int) (x6 : Int) (r : (List Int) × Er), f123L2 k p0 x1 x2 x3 x4 x5 x6 = some r → LH PX ⟨fn, 86, 0, (.tup [(.im (.sl 1 (r.1.map (eI .u8)))), (.im (eEr r.2))]), [], 0⟩ cc123_5 [.blk 4, .blk 1, .seq cc123_4, .loop cc123_0, .blk 0, .seq cc123_1] (f123L2_S p0 x1 x2 x3 x4 x5 x6)

theorem f123L0_step (k : Nat) (ih_f123L0 : f123L0_P k) (ih_f123L1 : f123L1_P k) (ih_f123L2 : f123L2_P k) : f123L0_P (k + 1) := by
  intro fn hfn p0 x1 x2 x3 x4 r h
  rw [f123L0] at h
  by_cases h1 : x4 < x3
  · rw [if_pos h1] at h
    obtain ⟨v1, h2, h⟩ := bnd h
    by_cases h3 : x4 = 0
    · rw [if_pos h3] at h
      obtain ⟨v2, h4, h⟩ := bnd h
      exact LH.round hT hm hfn (n := 1000) (ds := [.r [], .b true, .r [(1, ⟨(.h (.iv (eI .u64 v1))), [], []⟩)], .r [], .b true, .r [(2, ⟨(.h (.iv (eI .u64 v2))), [], []⟩)], .r [], .k ⟨[], [], [], [0, 4, 6, 7, 42, 43, 44], [(0, 0)], 1, [], []⟩])
        (r := (.head cc123_2 [.blk 2, .seq cc123_3, .blk 1, .seq cc123_4, .loop cc123_0, .blk 0, .seq cc123_1] (f123L1_S p0 x1 (IntKind.wrap .u64 (v1 + (IntKind.wrap .u64 (40 * v2)))) 1 x2 x3 x4))) (obs := [(decide (x4 < x3)) = true, 0 ≤ x4, (x2.map (eI .u64))[(x4).toNat]? = some (eI .u64 v1), (x4 == 0) = true, 0 ≤ 0, (p0.map (eI .u64))[0]? = some (eI .u64 v2)])
        (by kernel_rfl) ⟨(dt h1), (rd_nn h2), (rd_map (eI .u64) h2), (bt h3), (rd_nn h4), (rd_map (eI .u64) h4), trivial⟩ (ih_f123L1 fn hfn p0 x1 (IntKind.wrap .u64 (v1 + (IntKind.wrap .u64 (40 * v2)))) 1 x2 x3 x4 _ h)
    · rw [if_neg h3] at h
      exact LH.round hT hm hfn (n := 1000) (ds := [.r [], .b true, .r [(1, ⟨(.h (.iv (eI .u64 v1))), [], []⟩)], .r [], .b false, .r [], .k ⟨[], [], [], [0, 4, 6, 7, 42, 43, 44], [(0, 0)], 1, [], []⟩])
        (r := (.head cc123_2 [.blk 2, .seq cc123_3, .blk 1, .seq cc123_4, .loop cc123_0, .blk 0, .seq cc123_1] (f123L1_S p0 x1 v1 1 x2 x3 x4))) (obs := [(decide (x4 < x3)) = true, 0 ≤ x4, (x2.map (eI .u64))[(x4).toNat]? = some (eI .u64 v1), (x4 == 0) = false])
        (by kernel_rfl) ⟨(dt h1), (rd_nn h2), (rd_map (eI .u64) h2), (bf h3), trivial⟩ (ih_f123L1 fn hfn p0 x1 v1 1 x2 x3 x4 _ h)
  · rw [if_neg h1] at h
    replace h := Option.some.inj h; subst h
    exact LH.round hT hm hfn (n := 1000) (ds := [.r [], .b false, .r [], .k ⟨[], [], [0], [], [], 0, [], []⟩])
      (r := (.fin (.tup [(.im (.sl 1 (x1.map (eI .u8)))), (.im (.v .nilIface))]) [] 0)) (obs := [(decide (x4 < x3)) = false])
      (by kernel_rfl) ⟨(df h1), trivial⟩ ⟨rfl, rfl, rfl⟩

theorem f123L1_step (k : Nat) (ih_f123L0 : f123L0_P k) (ih_f123L1 : f123L1_P k) (ih_f123L2 : f123L2_P k) : f123L1_P (k + 1) := by
  intro fn hfn p0 x1 x2 x3 x4 x5 x6 r h
  rw [f123L1] at h
  obtain ⟨_, h1, h⟩ := bnd h
  replace h1 := up_ok h1
  by_cases h2 : (shrI .u64 x2 (IntKind.wrap .i64 (7 * x3))) > 0
  · rw [if_pos h2] at h
    exact LH.round hT hm hfn (n := 1000) (ds := [.r [(3, ⟨(.h .no), [], []⟩)], .b true, .r [], .k ⟨[], [], [], [0, 4, 6, 7, 42, 43, 44], [(0, 0)], 1, [], []⟩])
      (r := (.head cc123_2 [.blk 2, .seq cc123_3, .blk 1, .seq cc123_4, .loop cc123_0, .blk 0, .seq cc123_1] (f123L1_S p0 x1 x2 (IntKind.wrap .i64 (x3 + 1)) x4 x5 x6))) (obs := [0 ≤ (IntKind.wrap .i64 (7 * x3)), (decide ((shrI .u64 x2 (IntKind.wrap .i64 (7 * x3))) > 0)) = true])
      (by kernel_rfl) ⟨h1, (dt h2), trivial⟩ (ih_f123L1 fn hfn p0 x1 x2 (IntKind.wrap .i64 (x3 + 1)) x4 x5 x6 _ h)
  · rw [if_neg h2] at h
    exact LH.round hT hm hfn (n := 1000) (ds := [.r [(3, ⟨(.h .no), [], []⟩)], .b false, .r [], .k ⟨[], [], [], [0, 4, 6, 8, 42, 43, 44], [(0, 0)], 1, [], []⟩])
      (r := (.head cc123_5 [.blk 4, .blk 1, .seq cc123_4, .loop cc123_0, .blk 0, .seq cc123_1] (f123L2_S p0 x1 x2 (IntKind.wrap .i64 (x3 - 1)) x4 x5 x6))) (obs := [0 ≤ (IntKind.wrap .i64 (7 * x3)), (decide ((shrI .u64 x2 (IntKind.wrap .i64 (7 * x3))) > 0)) = false])
      (by kernel_rfl) ⟨h1, (df h2), trivial⟩ (ih_f123L2 fn hfn p0 x1 x2 (IntKind.wrap .i64 (x3 - 1)) x4 x5 x6 _ h)

theorem f123L2_step (k : Nat) (ih_f123L0 : f123L0_P k) (ih_f123L1 : f123L1_P k) (ih_f123L2 : f123L2_P k) : f123L2_P (k + 1) := by
  intro fn hfn p0 x1 x2 x3 x4 x5 x6 r h
  rw [f123L2] at h
  by_cases h1 : x3 ≥ 0
  · rw [if_pos h1] at h
    obtain ⟨_, h2, h⟩ := bnd h
    replace h2 := up_ok h2
    by_cases h3 : x3 > 0
    · rw [if_pos h3] at h
      obtain ⟨v1, h4, h⟩ := bnd h
      exact LH.round hT hm hfn (n := 1000) (ds := [.r [], .b true, .r [(3, ⟨(.h .no), [], []⟩)], .r [], .b true, .r [], .r [(3, ⟨(.h (.ivs (v1.map (eI .u8)))), [], []⟩)], .r [], .k ⟨[], [], [], [0, 4, 6, 8, 42, 43, 44], [(0, 2)], 1, [], []⟩])
        (r := (.head cc123_5 [.blk 4, .blk 1, .seq cc123_4, .loop cc123_0, .blk 0, .seq cc123_1] (f123L2_S p0 v1 x2 (IntKind.wrap .i64 (x3 - 1)) x4 x5 x6))) (obs := [(decide (x3 ≥ 0)) = true, 0 ≤ (IntKind.wrap .i64 (7 * x3)), (decide (x3 > 0)) = true, (x1.map (eI .u8)) ++ [(eI .u8 (bitI .or .u8 (bitI .and .u8 (IntKind.wrap .u8 (shrI .u64 x2 (IntKind.wrap .i64 (7 * x3)))) 127) 128))] = (v1.map (eI .u8)), (v1.map (eI .u8)).length * 1 ≤ 140737488355328, (v1.map (eI .u8)).length ≤ 9223372036854775807])
        (by kernel_rfl) ⟨(dt h1), h2, (dt h3), (ap_map (eI .u8) h4), (ap_b (eI .u8) h4), (ap_n (eI .u8) h4), trivial⟩ (ih_f123L2 fn hfn p0 v1 x2 (IntKind.wrap .i64 (x3 - 1)) x4 x5 x6 _ h)
    · rw [if_neg h3] at h
      obtain ⟨v1, h4, h⟩ := bnd h
      exact LH.round hT hm hfn (n := 1000) (ds := [.r [], .b true, .r [(3, ⟨(.h .no), [], []⟩)], .r [], .b false, .r [(3, ⟨(.h (.ivs (v1.map (eI .u8)))), [], []⟩)], .r [], .k ⟨[], [], [], [0, 4, 6, 8, 42, 43, 44], [(0, 2)], 1, [], []⟩])
        (r := (.head cc123_5 [.blk 4, .blk 1, .seq cc123_4, .loop cc123_0, .blk 0, .seq cc123_1] (f123L2_S p0 v1 x2 (IntKind.wrap .i64 (x3 - 1)) x4 x5 x6))) (obs := [(decide (x3 ≥ 0)) = true, 0 ≤ (IntKind.wrap .i64 (7 * x3)), (decide (x3 > 0)) = false, (x1.map (eI .u8)) ++ [(eI .u8 (bitI .and .u8 (IntKind.wrap .u8 (shrI .u64 x2 (IntKind.wrap .i64 (7 * x3)))) 127))] = (v1.map (eI .u8)), (v1.map (eI .u8)).length * 1 ≤ 140737488355328, (v1.map (eI .u8)).length ≤ 9223372036854775807])
        (by kernel_rfl) ⟨(dt h1), h2, (df h3), (ap_map (eI .u8) h4), (ap_b (eI .u8) h4), (ap_n (eI .u8) h4), trivial⟩ (ih_f123L2 fn hfn p0 v1 x2 (IntKind.wrap .i64 (x3 - 1)) x4 x5 x6 _ h)
  · rw [if_neg h1] at h
    exact LH.round hT hm hfn (n := 1000) (ds := [.r [], .b false, .r [], .k ⟨[], [], [], [0, 4, 42, 43, 44], [(0, 0)], 1, [], []⟩])
      (r := (.head cc123_0 [.blk 0, .seq cc123_1] (f123L0_S p0 x1 x4 x5 (IntKind.wrap .i64 (x6 + 1))))) (obs := [(decide (x3 ≥ 0)) = false])
      (by kernel_rfl) ⟨(df h1), trivial⟩ (ih_f123L0 fn hfn p0 x1 x4 x5 (IntKind.wrap .i64 (x6 + 1)) _ h)

theorem f123L0_all : ∀ k, f123L0_P k ∧ f123L1_P k ∧ f123L2_P k
  | 0 => ⟨(by intro fn hfn _ _ _ _ _ r h; rw [f123L0] at h; cases h), (by intro fn hfn _ _ _ _ _ _ _ r h; rw [f123L1] at h; cases h), (by intro fn hfn _ _ _ _ _ _ _ r h; rw [f123L2] at h; cases h)⟩
  | k + 1 => ⟨f123L0_step k (f123L0_all k).1 (f123L0_all k).2.1 (f123L0_all k).2.2, f123L1_step k (f123L0_all k).1 (f123L0_all k).2.1 (f123L0_all k).2.2, f123L2_step k (f123L0_all k).1 (f123L0_all k).2.1 (f123L0_all k).2.2⟩

theorem f123L0_ok (fn : Func) (hfn : fn.results = ([.t 2, .t 3].map Rv.var).toArray) (k : Nat) : ∀ (p0 : (List Int)) (x1 : (List Int)) (x2 : (List Int)) (x3 : Int) (x4 : Int) (r : (List Int) × Er), f123L0 k p0 x1 x2 x3 x4 = some r → LH PX ⟨fn, 86, 0, (.tup [(.im (.sl 1 (r.1.map (eI .u8)))), (.im (eEr r.2))]), [], 0⟩ cc123_0 [.blk 0, .seq cc123_1] (f123L0_S p0 x1 x2 x3 x4) := (f123L0_all k).1 fn hfn

theorem f123L1_ok (fn : Func) (hfn : fn.results = ([.t 2, .t 3].map Rv.var).toArray) (k : Nat) : ∀ (p0 : (List Int)) (x1 : (List Int)) (x2 : Int) (x3 : Int) (x4 : (List Int)) (x5 : Int) (x6 : Int) (r : (List Int) × Er), f123L1 k p0 x1 x2 x3 x4 x5 x6 = some r → LH PX ⟨fn, 86, 0, (.tup [(.im (.sl 1 (r.1.map (eI .u8)))), (.im (eEr r.2))]), [], 0⟩ cc123_2 [.blk 2, .seq cc123_3, .blk 1, .seq cc123_4, .loop cc123_0, .blk 0, .seq cc123_1] (f123L1_S p0 x1 x2 x3 x4 x5 x6) := (f123L0_all k).2.1 fn hfn

theorem f123L2_ok (fn : Func) (hfn : fn.results = ([.t 2, .t 3].map Rv.var).toArray) (k : Nat) : ∀ (p0 : (List Int)) (x1 : (List Int)) (x2 : Int) (x3 : Int) (x4 : (List Int)) (x5 : Int) (x6 : Int) (r : (List Int) × Er), f123L2 k p0 x1 x2 x3 x4 x5 x6 = some r → LH PX ⟨fn, 86, 0, (.tup [(.im (.sl 1 (r.1.map (eI .u8)))), (.im (eEr r.2))]), [], 0⟩ cc123_5 [.blk 4, .blk 1, .seq cc123_4, .loop cc123_0, .blk 0, .seq cc123_1] (f123L2_S p0 x1 x2 x3 x4 x5 x6) := (f123L0_all k).2.2 fn hfn

def f156 (k : Nat) (p0 : Int) : Option (Bool) :=
  some (decide (p0 > 4294967295))

theorem f156_ok (k : Nat) : ∀ (p0 : Int) (r : Bool), f156 k p0 = some r → Ct.Ok PX 156 ⟨[(.im (eI .u64 p0))], [], 0, (.im (eB r)), [], 0⟩ := by
  intro p0 r h
  unfold f156 at h
  replace h := Option.some.inj h; subst h
  exact Ct.ofWalk hT hm F156 (by kernel_rfl) (n := 1000) (ds := [.r [], .r [], .k ⟨[], [], [], [], [], 0, [], []⟩])
    (r := (.fin (.im (eB (decide (p0 > 4294967295)))) [] 0)) (obs := [])
    (by kernel_rfl) trivial (fun fn hfn => ⟨rfl, rfl, rfl⟩)
end Go.Proofs.Tryd.E
end

section
namespace Go.Proofs.Tryd.E
open Go Go.Eng
set_option maxRecDepth 100000
set_option linter.unusedVariables false
def f166L0_S (p0 : (List Int)) (x2 : Int) : S := ⟨[(0, (.im (.sl 1 (p0.map (eI .u64))))), (1, (.im (.fn 156 []))), (7, (.im (eI .i64 (p0.length : Int)))), (8, (.im (eI .i64 x2)))], [], 0⟩

def f166L0 : Nat → (List Int) → Int → Option (Int)
  | 0, _, _ => none
  | k + 1, p0, x2 =>
    if x2 < (p0.length : Int) then (
     (rd p0 x2).bind fun v1 =>
     (f156 k v1).bind fun v2 =>
     if v2 = true then (
      some x2)
     else (
      f166L0 k p0 (IntKind.wrap .i64 (x2 + 1))))
    else (
     some (-1))

def f166L0_P (k : Nat) : Prop := ∀ (fn : Func) (_ : fn.results = ([.t 4].map Rv.var).toArray), ∀ (p0 : (List Int)) (x2 : Int) (r : Int), f166L0 k p0 x2 = some r → LH PX ⟨fn, 19, 0, (.im (eI .i64 r)), [], 0⟩ cc166_0 [.blk 0, .seq cc166_1] (f166L0_S p0 x2)

theorem f166L0_step (k : Nat) (ih_f166L0 : f166L0_P k) : f166L0_P (k + 1) := by
  intro fn hfn p0 x2 r h
  rw [f166L0] at h
  by_cases h1 : x2 < (p0.length : Int)
  · rw [if_pos h1] at h
    obtain ⟨v1, h2, h⟩ := bnd h
    obtain ⟨v2, h3, h⟩ := bnd h
    by_cases h4 : v2 = true
    · rw [if_pos h4] at h
      replace h := Option.some.inj h; subst h
      exact LH.round hT hm hfn (n := 1000) (ds := [.r [], .b true, .r [], .r [(3, ⟨(.h (.iv (eI .u64 v1))), [], []⟩), (5, ⟨(.c false [] ⟨[], [], [], 0, (.im (eB v2)), [], 0, [], 0⟩), [], []⟩)], .b true, .r [], .k ⟨[], [], [], [], [], 0, [], []⟩])
        (r := (.fin (.im (eI .i64 x2)) [] 0)) (obs := [(decide (x2 < (p0.length : Int))) = true, 0 ≤ x2, (p0.map (eI .u64))[(x2).toNat]? = some (eI .u64 v1), Ct.Ok PX 156 ⟨[(.im (eI .u64 v1))], [], 0, (.im (eB v2)), [], 0⟩, v2 = true])
        (by kernel_rfl) ⟨(dt h1), (rd_nn h2), (rd_map (eI .u64) h2), (f156_ok k v1 v2 h3), h4, trivial⟩ ⟨rfl, rfl, rfl⟩
    · rw [if_neg h4] at h
      exact LH.round hT hm hfn (n := 1000) (ds := [.r [], .b true, .r [], .r [(3, ⟨(.h (.iv (eI .u64 v1))), [], []⟩), (5, ⟨(.c false [] ⟨[], [], [], 0, (.im (eB v2)), [], 0, [], 0⟩), [], []⟩)], .b false, .r [], .k ⟨[], [], [], [0, 1, 7, 8], [], 0, [], []⟩])
        (r := (.head cc166_0 [.blk 0, .seq cc166_1] (f166L0_S p0 (IntKind.wrap .i64 (x2 + 1))))) (obs := [(decide (x2 < (p0.length : Int))) = true, 0 ≤ x2, (p0.map (eI .u64))[(x2).toNat]? = some (eI .u64 v1), Ct.Ok PX 156 ⟨[(.im (eI .u64 v1))], [], 0, (.im (eB v2)), [], 0⟩, v2 = false])
        (by kernel_rfl) ⟨(dt h1), (rd_nn h2), (rd_map (eI .u64) h2), (f156_ok k v1 v2 h3), (vf h4), trivial⟩ (ih_f166L0 fn hfn p0 (IntKind.wrap .i64 (x2 + 1)) _ h)
  · rw [if_neg h1] at h
    replace h := Option.some.inj h; subst h
    exact LH.round hT hm hfn (n := 1000) (ds := [.r [], .b false, .r [], .k ⟨[], [], [], [], [], 0, [], []⟩])
      (r := (.fin (.im (eI .i64 (-1))) [] 0)) (obs := [(decide (x2 < (p0.length : Int))) = false])
      (by kernel_rfl) ⟨(df h1), trivial⟩ ⟨rfl, rfl, rfl⟩

theorem f166L0_all : ∀ k, f166L0_P k
  | 0 => (by intro fn hfn _ _ r h; rw [f166L0] at h; cases h)
  | k + 1 => f166L0_step k (f166L0_all k)

theorem f166L0_ok (fn : Func) (hfn : fn.results = ([.t 4].map Rv.var).toArray) (k : Nat) : ∀ (p0 : (List Int)) (x2 : Int) (r : Int), f166L0 k p0 x2 = some r → LH PX ⟨fn, 19, 0, (.im (eI .i64 r)), [], 0⟩ cc166_0 [.blk 0, .seq cc166_1] (f166L0_S p0 x2) := (f166L0_all k) fn hfn

def f166 (k : Nat) (p0 : (List Int)) : Option (Int) :=
  f166L0 k p0 0

theorem f166_ok (k : Nat) : ∀ (p0 : (List Int)) (r : Int), f166 k p0 = some r → Ct.Ok PX 166 ⟨[(.im (.sl 1 (p0.map (eI .u64)))), (.im (.fn 156 []))], [], 0, (.im (eI .i64 r)), [], 0⟩ := by
  intro p0 r h
  unfold f166 at h
  exact Ct.ofWalk hT hm F166 (by kernel_rfl) (n := 1000) (ds := [.r [], .r [(1, ⟨(.h (.int (p0.length : Int))), [], []⟩)], .k ⟨[], [], [], [0, 1, 7, 8], [], 0, [], []⟩])
    (r := (.head cc166_0 [.blk 0, .seq cc166_1] (f166L0_S p0 0))) (obs := [((p0.map (eI .u64)).length : Int) = (p0.length : Int)])
    (by kernel_rfl) ⟨(len_m (eI .u64) _), trivial⟩ (fun fn hfn => f166L0_ok fn hfn k p0 0 _ h)

def f155 (k : Nat) (p0 : (List Int)) : Option (Bool) :=
  (f166 k p0).bind fun v1 =>
  some (decide (v1 ≥ 0))

theorem f155_ok (k : Nat) : ∀ (p0 : (List Int)) (r : Bool), f155 k p0 = some r → Ct.Ok PX 155 ⟨[(.im (.sl 1 (p0.map (eI .u64)))), (.im (.fn 156 []))], [], 0, (.im (eB r)), [], 0⟩ := by
  intro p0 r h
  unfold f155 at h
  obtain ⟨v1, h1, h⟩ := bnd h
  replace h := Option.some.inj h; subst h
  exact Ct.ofWalk hT hm F155 (by kernel_rfl) (n := 1000) (ds := [.r [], .r [(2, ⟨(.c false [] ⟨[], [], [], 0, (.im (eI .i64 v1)), [], 0, [], 0⟩), [], []⟩)], .k ⟨[], [], [], [], [], 0, [], []⟩])
    (r := (.fin (.im (eB (decide (v1 ≥ 0)))) [] 0)) (obs := [Ct.Ok PX 166 ⟨[(.im (.sl 1 (p0.map (eI .u64)))), (.im (.fn 156 []))], [], 0, (.im (eI .i64 v1)), [], 0⟩])
    (by kernel_rfl) ⟨(f166_ok k p0 v1 h1), trivial⟩ (fun fn hfn => ⟨rfl, rfl, rfl⟩)
end Go.Proofs.Tryd.E
end

section
namespace Go.Proofs.Tryd.E
open Go Go.Eng
set_option maxRecDepth 100000
set_option linter.unusedVariables false
def f123 (k : Nat) (p0 : (List Int)) : Option ((List Int) × Er) :=
  if (p0.length : Int) < 2 then (
   some ([], (Er.code 1)))
  else (
   if (p0.length : Int) > 16 then (
    some ([], (Er.code 1)))
   else (
    (rd p0 0).bind fun v1 =>
    if v1 > 2 then (
     some ([], (Er.code 1)))
    else (
     if v1 < 2 then (
      (rd p0 1).bind fun v2 =>
      if v2 > 39 then (
       some ([], (Er.code 1)))
      else (
       (f155 k p0).bind fun v3 =>
       if v3 = true then (
        some ([], (Er.code 1)))
       else (
        (sl p0 1 (p0.length : Int)).bind fun v4 =>
        f123L0 k p0 [] v4 (v4.length : Int) 0)))
     else (
      (f155 k p0).bind fun v2 =>
      if v2 = true then (
       some ([], (Er.code 1)))
      else (
       (sl p0 1 (p0.length : Int)).bind fun v3 =>
       f123L0 k p0 [] v3 (v3.length : Int) 0)))))

theorem f123_ok (k : Nat) : ∀ (p0 : (List Int)) (r : (List Int) × Er), f123 k p0 = some r → Ct.Ok PX 123 ⟨[(.im (.sl 1 (p0.map (eI .u64))))], [], 0, (.tup [(.im (.sl 1 (r.1.map (eI .u8)))), (.im (eEr r.2))]), [], 0⟩ := by
  intro p0 r h
  unfold f123 at h
  by_cases h1 : (p0.length : Int) < 2
  · rw [if_pos h1] at h
    replace h := Option.some.inj h; subst h
    exact Ct.ofWalk hT hm F123 (by kernel_rfl) (n := 1000) (ds := [.r [], .r [(1, ⟨(.h (.int (p0.length : Int))), [], []⟩), (4, ⟨(.h .gf), [], []⟩), (5, ⟨(.h .gf), [], []⟩), (6, ⟨(.h .gf), [], []⟩), (7, ⟨(.h (.gt .no)), [], []⟩)], .bc true, .r [], .k ⟨[], [], [], [], [], 0, [(0, (.s [(.n 1)]))], []⟩])
      (r := (.fin (.tup [(.im (.sl 1 [])), (.im (.ifc 40 (eI .i64 1)))]) [] 0)) (obs := [((p0.map (eI .u64)).length : Int) = (p0.length : Int), (decide ((p0.length : Int) < 2)) = !false, (decide ((p0.length : Int) < 2)) = !false, (decide ((p0.length : Int) < 2)) = !false, (decide ((p0.length : Int) < 2)) = true])
      (by kernel_rfl) ⟨(len_m (eI .u64) _), (dt h1), (dt h1), (dt h1), (dt h1), trivial⟩ (fun fn hfn => ⟨rfl, rfl, rfl⟩)
  · rw [if_neg h1] at h
    by_cases h2 : (p0.length : Int) > 16
    · rw [if_pos h2] at h
      replace h := Option.some.inj h; subst h
      exact Ct.ofWalk hT hm F123 (by kernel_rfl) (n := 1000) (ds := [.r [], .r [(1, ⟨(.h (.int (p0.length : Int))), [], []⟩), (4, ⟨(.h (.gt .no)), [], []⟩), (5, ⟨(.h (.gt (.int (p0.length : Int)))), [], []⟩), (6, ⟨(.h (.gt .no)), [], []⟩), (7, ⟨(.h .gf), [], []⟩), (9, ⟨(.h .gf), [], []⟩), (10, ⟨(.h .gf), [], []⟩), (11, ⟨(.h .gf), [], []⟩), (12, ⟨(.h .gf), [], []⟩), (13, ⟨(.h (.gt .no)), [], []⟩)], .bc true, .r [], .k ⟨[], [], [], [], [], 0, [(0, (.s [(.n 1)]))], []⟩])
        (r := (.fin (.tup [(.im (.sl 1 [])), (.im (.ifc 40 (eI .i64 1)))]) [] 0)) (obs := [((p0.map (eI .u64)).length : Int) = (p0.length : Int), (decide ((p0.length : Int) < 2)) = false, (decide ((p0.length : Int) < 2)) = false, ((p0.map (eI .u64)).length : Int) = (p0.length : Int), (decide ((p0.length : Int) < 2)) = false, (decide ((p0.length : Int) < 2)) = false, (decide ((p0.length : Int) > 16)) = !false, (decide ((p0.length : Int) > 16)) = !false, (decide ((p0.length : Int) > 16)) = !false, (decide ((p0.length : Int) > 16)) = !false, (decide ((p0.length : Int) > 16)) = true])
        (by kernel_rfl) ⟨(len_m (eI .u64) _), (df h1), (df h1), (len_m (eI .u64) _), (df h1), (df h1), (dt h2), (dt h2), (dt h2), (dt h2), (dt h2), trivial⟩ (fun fn hfn => ⟨rfl, rfl, rfl⟩)
    · rw [if_neg h2] at h
      obtain ⟨v1, h3, h⟩ := bnd h
      by_cases h4 : v1 > 2
      · rw [if_pos h4] at h
        replace h := Option.some.inj h; subst h
        exact Ct.ofWalk hT hm F123 (by kernel_rfl) (n := 1000) (ds := [.r [], .r [(1, ⟨(.h (.int (p0.length : Int))), [], []⟩), (4, ⟨(.h (.gt .no)), [], []⟩), (5, ⟨(.h (.gt (.int (p0.length : Int)))), [], []⟩), (6, ⟨(.h (.gt .no)), [], []⟩), (7, ⟨(.h .gf), [], []⟩), (9, ⟨(.h (.gt .no)), [], []⟩), (10, ⟨(.h (.gt (.iv (eI .u64 v1)))), [], []⟩), (11, ⟨(.h (.gt .no)), [], []⟩), (12, ⟨(.h (.gt .no)), [], []⟩), (13, ⟨(.h .gf), [], []⟩), (15, ⟨(.h .gf), [], []⟩), (16, ⟨(.h .gf), [], []⟩), (17, ⟨(.h .gf), [], []⟩), (18, ⟨(.h .gf), [], []⟩), (19, ⟨(.h .gf), [], []⟩), (24, ⟨(.h .gf), [], []⟩), (25, ⟨(.h (.gt .no)), [], []⟩)], .bc true, .r [], .k ⟨[], [], [], [], [], 0, [(0, (.s [(.n 1)]))], []⟩])
          (r := (.fin (.tup [(.im (.sl 1 [])), (.im (.ifc 40 (eI .i64 1)))]) [] 0)) (obs := [((p0.map (eI .u64)).length : Int) = (p0.length : Int), (decide ((p0.length : Int) < 2)) = false, (decide ((p0.length : Int) < 2)) = false, ((p0.map (eI .u64)).length : Int) = (p0.length : Int), (decide ((p0.length : Int) < 2)) = false, (decide ((p0.length : Int) < 2)) = false, (decide ((p0.length : Int) > 16)) = false, (decide ((p0.length : Int) > 16)) = false, 0 ≤ 0, (p0.map (eI .u64))[0]? = some (eI .u64 v1), (decide ((p0.length : Int) > 16)) = false, (decide ((p0.length : Int) > 16)) = false, (decide ((p0.length : Int) > 16)) = false, (decide (v1 > 2)) = !false, (decide (v1 > 2)) = !false, (decide (v1 > 2)) = !false, (decide (v1 > 2)) = !false, (decide (v1 > 2)) = !false, (decide (v1 > 2)) = !false, (decide (v1 > 2)) = true])
          (by kernel_rfl) ⟨(len_m (eI .u64) _), (df h1), (df h1), (len_m (eI .u64) _), (df h1), (df h1), (df h2), (df h2), (rd_nn h3), (rd_map (eI .u64) h3), (df h2), (df h2), (df h2), (dt h4), (dt h4), (dt h4), (dt h4), (dt h4), (dt h4), (dt h4), trivial⟩ (fun fn hfn => ⟨rfl, rfl, rfl⟩)
      · rw [if_neg h4] at h
        by_cases h5 : v1 < 2
        · rw [if_pos h5] at h
          obtain ⟨v2, h6, h⟩ := bnd h
          by_cases h7 : v2 > 39
          · rw [if_pos h7] at h
            replace h := Option.some.inj h; subst h
            exact Ct.ofWalk hT hm F123 (by kernel_rfl) (n := 1000) (ds := [.r [], .r [(1, ⟨(.h (.int (p0.length : Int))), [], []⟩), (4, ⟨(.h (.gt .no)), [], []⟩), (5, ⟨(.h (.gt (.int (p0.length : Int)))), [], []⟩), (6, ⟨(.h (.gt .no)), [], []⟩), (7, ⟨(.h .gf), [], []⟩), (9, ⟨(.h (.gt .no)), [], []⟩), (10, ⟨(.h (.gt (.iv (eI .u64 v1)))), [], []⟩), (11, ⟨(.h (.gt .no)), [], []⟩), (12, ⟨(.h (.gt .no)), [], []⟩), (13, ⟨(.h .gf), [], []⟩), (15, ⟨(.h (.gt .no)), [], []⟩), (16, ⟨(.h (.gt (.iv (eI .u64 v1)))), [], []⟩), (17, ⟨(.h (.gt .no)), [], []⟩), (18, ⟨(.h (.gt .no)), [], []⟩), (19, ⟨(.h (.gt .no)), [], []⟩), (20, ⟨(.h (.gt .no)), [], []⟩), (21, ⟨(.h (.gt (.iv (eI .u64 v2)))), [], []⟩), (22, ⟨(.h (.gt .no)), [], []⟩), (23, ⟨(.h (.gt .no)), [], []⟩), (24, ⟨(.h (.gt (.gt .no))), [], []⟩), (25, ⟨(.h .gf), [], []⟩), (27, ⟨(.h .gf), [], []⟩), (28, ⟨(.h .gf), [], []⟩), (29, ⟨(.h (.gt .no)), [], []⟩)], .bc true, .r [], .k ⟨[], [], [], [], [], 0, [(0, (.s [(.n 1)]))], []⟩])
              (r := (.fin (.tup [(.im (.sl 1 [])), (.im (.ifc 40 (eI .i64 1)))]) [] 0)) (obs := [((p0.map (eI .u64)).length : Int) = (p0.length : Int), (decide ((p0.length : Int) < 2)) = false, (decide ((p0.length : Int) < 2)) = false, ((p0.map (eI .u64)).length : Int) = (p0.length : Int), (decide ((p0.length : Int) < 2)) = false, (decide ((p0.length : Int) < 2)) = false, (decide ((p0.length : Int) > 16)) = false, (decide ((p0.length : Int) > 16)) = false, 0 ≤ 0, (p0.map (eI .u64))[0]? = some (eI .u64 v1), (decide ((p0.length : Int) > 16)) = false, (decide ((p0.length : Int) > 16)) = false, (decide ((p0.length : Int) > 16)) = false, (decide (v1 > 2)) = false, (decide (v1 > 2)) = false, 0 ≤ 0, (p0.map (eI .u64))[0]? = some (eI .u64 v1), (decide (v1 > 2)) = false, (decide (v1 > 2)) = false, (decide (v1 > 2)) = false, (decide (v1 < 2)) = true, (decide (v1 < 2)) = true, 0 ≤ 1, (p0.map (eI .u64))[1]? = some (eI .u64 v2), (decide (v1 < 2)) = true, (decide (v1 < 2)) = true, (decide (v1 > 2)) = false, (decide (v1 < 2)) = true, (decide (v1 > 2)) = false, (decide (v2 > 39)) = !false, (decide (v2 > 39)) = !false, (decide (v2 > 39)) = true])
              (by kernel_rfl) ⟨(len_m (eI .u64) _), (df h1), (df h1), (len_m (eI .u64) _), (df h1), (df h1), (df h2), (df h2), (rd_nn h3), (rd_map (eI .u64) h3), (df h2), (df h2), (df h2), (df h4), (df h4), (rd_nn h3), (rd_map (eI .u64) h3), (df h4), (df h4), (df h4), (dt h5), (dt h5), (rd_nn h6), (rd_map (eI .u64) h6), (dt h5), (dt h5), (df h4), (dt h5), (df h4), (dt h7), (dt h7), (dt h7), trivial⟩ (fun fn hfn => ⟨rfl, rfl, rfl⟩)
          · rw [if_neg h7] at h
            obtain ⟨v3, h8, h⟩ := bnd h
            by_cases h9 : v3 = true
            · rw [if_pos h9] at h
              replace h := Option.some.inj h; subst h
              exact Ct.ofWalk hT hm F123 (by kernel_rfl) (n := 1000) (ds := [.r [], .r [(1, ⟨(.h (.int (p0.length : Int))), [], []⟩), (4, ⟨(.h (.gt .no)), [], []⟩), (5, ⟨(.h (.gt (.int (p0.length : Int)))), [], []⟩), (6, ⟨(.h (.gt .no)), [], []⟩), (7, ⟨(.h .gf), [], []⟩), (9, ⟨(.h (.gt .no)), [], []⟩), (10, ⟨(.h (.gt (.iv (eI .u64 v1)))), [], []⟩), (11, ⟨(.h (.gt .no)), [], []⟩), (12, ⟨(.h (.gt .no)), [], []⟩), (13, ⟨(.h .gf), [], []⟩), (15, ⟨(.h (.gt .no)), [], []⟩), (16, ⟨(.h (.gt (.iv (eI .u64 v1)))), [], []⟩), (17, ⟨(.h (.gt .no)), [], []⟩), (18, ⟨(.h (.gt .no)), [], []⟩), (19, ⟨(.h (.gt .no)), [], []⟩), (20, ⟨(.h (.gt .no)), [], []⟩), (21, ⟨(.h (.gt (.iv (eI .u64 v2)))), [], []⟩), (22, ⟨(.h (.gt .no)), [], []⟩), (23, ⟨(.h (.gt .no)), [], []⟩), (24, ⟨(.h (.gt (.gt .no))), [], []⟩), (25, ⟨(.h .gf), [], []⟩), (27, ⟨(.h (.gt .no)), [], []⟩), (28, ⟨(.c true [] ⟨[], [], [], 0, (.im (eB v3)), [], 0, [], 0⟩), [], []⟩), (29, ⟨(.h .gf), [], []⟩)], .b true, .r [], .k ⟨[], [], [], [], [], 0, [(0, (.s [(.n 1)]))], []⟩])
                (r := (.fin (.tup [(.im (.sl 1 [])), (.im (.ifc 40 (eI .i64 1)))]) [] 0)) (obs := [((p0.map (eI .u64)).length : Int) = (p0.length : Int), (decide ((p0.length : Int) < 2)) = false, (decide ((p0.length : Int) < 2)) = false, ((p0.map (eI .u64)).length : Int) = (p0.length : Int), (decide ((p0.length : Int) < 2)) = false, (decide ((p0.length : Int) < 2)) = false, (decide ((p0.length : Int) > 16)) = false, (decide ((p0.length : Int) > 16)) = false, 0 ≤ 0, (p0.map (eI .u64))[0]? = some (eI .u64 v1), (decide ((p0.length : Int) > 16)) = false, (decide ((p0.length : Int) > 16)) = false, (decide ((p0.length : Int) > 16)) = false, (decide (v1 > 2)) = false, (decide (v1 > 2)) = false, 0 ≤ 0, (p0.map (eI .u64))[0]? = some (eI .u64 v1), (decide (v1 > 2)) = false, (decide (v1 > 2)) = false, (decide (v1 > 2)) = false, (decide (v1 < 2)) = true, (decide (v1 < 2)) = true, 0 ≤ 1, (p0.map (eI .u64))[1]? = some (eI .u64 v2), (decide (v1 < 2)) = true, (decide (v1 < 2)) = true, (decide (v1 > 2)) = false, (decide (v1 < 2)) = true, (decide (v1 > 2)) = false, (decide (v2 > 39)) = false, (decide (v2 > 39)) = false, Ct.Ok PX 155 ⟨[(.im (.sl 1 (p0.map (eI .u64)))), (.im (.fn 156 []))], [], 0, (.im (eB v3)), [], 0⟩, (decide (v2 > 39)) = false, v3 = true])
                (by kernel_rfl) ⟨(len_m (eI .u64) _), (df h1), (df h1), (len_m (eI .u64) _), (df h1), (df h1), (df h2), (df h2), (rd_nn h3), (rd_map (eI .u64) h3), (df h2), (df h2), (df h2), (df h4), (df h4), (rd_nn h3), (rd_map (eI .u64) h3), (df h4), (df h4), (df h4), (dt h5), (dt h5), (rd_nn h6), (rd_map (eI .u64) h6), (dt h5), (dt h5), (df h4), (dt h5), (df h4), (df h7), (df h7), (f155_ok k p0 v3 h8), (df h7), h9, trivial⟩ (fun fn hfn => ⟨rfl, rfl, rfl⟩)
            · rw [if_neg h9] at h
              obtain ⟨v4, h10, h⟩ := bnd h
              exact Ct.ofWalk hT hm F123 (by kernel_rfl) (n := 1000) (ds := [.r [], .r [(1, ⟨(.h (.int (p0.length : Int))), [], []⟩), (4, ⟨(.h (.gt .no)), [], []⟩), (5, ⟨(.h (.gt (.int (p0.length : Int)))), [], []⟩), (6, ⟨(.h (.gt .no)), [], []⟩), (7, ⟨(.h .gf), [], []⟩), (9, ⟨(.h (.gt .no)), [], []⟩), (10, ⟨(.h (.gt (.iv (eI .u64 v1)))), [], []⟩), (11, ⟨(.h (.gt .no)), [], []⟩), (12, ⟨(.h (.gt .no)), [], []⟩), (13, ⟨(.h .gf), [], []⟩), (15, ⟨(.h (.gt .no)), [], []⟩), (16, ⟨(.h (.gt (.iv (eI .u64 v1)))), [], []⟩), (17, ⟨(.h (.gt .no)), [], []⟩), (18, ⟨(.h (.gt .no)), [], []⟩), (19, ⟨(.h (.gt .no)), [], []⟩), (20, ⟨(.h (.gt .no)), [], []⟩), (21, ⟨(.h (.gt (.iv (eI .u64 v2)))), [], []⟩), (22, ⟨(.h (.gt .no)), [], []⟩), (23, ⟨(.h (.gt .no)), [], []⟩), (24, ⟨(.h (.gt (.gt .no))), [], []⟩), (25, ⟨(.h .gf), [], []⟩), (27, ⟨(.h (.gt .no)), [], []⟩), (28, ⟨(.c true [] ⟨[], [], [], 0, (.im (eB v3)), [], 0, [], 0⟩), [], []⟩), (29, ⟨(.h .gf), [], []⟩)], .b false, .r [], .r [(1, ⟨(.h (.ivs (v4.map (eI .u64)))), [], []⟩), (2, ⟨(.h (.int (v4.length : Int))), [], []⟩)], .k ⟨[], [(4, 5, 1)], [], [0, 4, 42, 43, 44], [(0, 0)], 1, [], []⟩])
                (r := (.head cc123_0 [.blk 0, .seq cc123_1] (f123L0_S p0 [] v4 (v4.length : Int) 0))) (obs := [((p0.map (eI .u64)).length : Int) = (p0.length : Int), (decide ((p0.length : Int) < 2)) = false, (decide ((p0.length : Int) < 2)) = false, ((p0.map (eI .u64)).length : Int) = (p0.length : Int), (decide ((p0.length : Int) < 2)) = false, (decide ((p0.length : Int) < 2)) = false, (decide ((p0.length : Int) > 16)) = false, (decide ((p0.length : Int) > 16)) = false, 0 ≤ 0, (p0.map (eI .u64))[0]? = some (eI .u64 v1), (decide ((p0.length : Int) > 16)) = false, (decide ((p0.length : Int) > 16)) = false, (decide ((p0.length : Int) > 16)) = false, (decide (v1 > 2)) = false, (decide (v1 > 2)) = false, 0 ≤ 0, (p0.map (eI .u64))[0]? = some (eI .u64 v1), (decide (v1 > 2)) = false, (decide (v1 > 2)) = false, (decide (v1 > 2)) = false, (decide (v1 < 2)) = true, (decide (v1 < 2)) = true, 0 ≤ 1, (p0.map (eI .u64))[1]? = some (eI .u64 v2), (decide (v1 < 2)) = true, (decide (v1 < 2)) = true, (decide (v1 > 2)) = false, (decide (v1 < 2)) = true, (decide (v1 > 2)) = false, (decide (v2 > 39)) = false, (decide (v2 > 39)) = false, Ct.Ok PX 155 ⟨[(.im (.sl 1 (p0.map (eI .u64)))), (.im (.fn 156 []))], [], 0, (.im (eB v3)), [], 0⟩, (decide (v2 > 39)) = false, v3 = false, (0 : Int) ≤ 1, (1 : Int) ≤ ((p0.map (eI .u64)).length : Int), ((p0.map (eI .u64)).length : Int) ≤ ((p0.map (eI .u64)).length : Int), ((p0.map (eI .u64)).drop (1 : Int).toNat).take ((((p0.map (eI .u64)).length : Int) : Int).toNat - (1 : Int).toNat) = (v4.map (eI .u64)), ((v4.map (eI .u64)).length : Int) = (v4.length : Int)])
                (by kernel_rfl) ⟨(len_m (eI .u64) _), (df h1), (df h1), (len_m (eI .u64) _), (df h1), (df h1), (df h2), (df h2), (rd_nn h3), (rd_map (eI .u64) h3), (df h2), (df h2), (df h2), (df h4), (df h4), (rd_nn h3), (rd_map (eI .u64) h3), (df h4), (df h4), (df h4), (dt h5), (dt h5), (rd_nn h6), (rd_map (eI .u64) h6), (dt h5), (dt h5), (df h4), (dt h5), (df h4), (df h7), (df h7), (f155_ok k p0 v3 h8), (df h7), (vf h9), (sl_ok h10).1, (by have q := (sl_ok h10).2.1; simpa using q), (Int.le_refl _), (by have q := sl_map (eI .u64) h10; simpa using q), (len_m (eI .u64) _), trivial⟩ (fun fn hfn => f123L0_ok fn hfn k p0 [] v4 (v4.length : Int) 0 _ h)
        · rw [if_neg h5] at h
          obtain ⟨v2, h6, h⟩ := bnd h
          by_cases h7 : v2 = true
          · rw [if_pos h7] at h
            replace h := Option.some.inj h; subst h
            exact Ct.ofWalk hT hm F123 (by kernel_rfl) (n := 1000) (ds := [.r [], .r [(1, ⟨(.h (.int (p0.length : Int))), [], []⟩), (4, ⟨(.h (.gt .no)), [], []⟩), (5, ⟨(.h (.gt (.int (p0.length : Int)))), [], []⟩), (6, ⟨(.h (.gt .no)), [], []⟩), (7, ⟨(.h .gf), [], []⟩), (9, ⟨(.h (.gt .no)), [], []⟩), (10, ⟨(.h (.gt (.iv (eI .u64 v1)))), [], []⟩), (11, ⟨(.h (.gt .no)), [], []⟩), (12, ⟨(.h (.gt .no)), [], []⟩), (13, ⟨(.h .gf), [], []⟩), (15, ⟨(.h (.gt .no)), [], []⟩), (16, ⟨(.h (.gt (.iv (eI .u64 v1)))), [], []⟩), (17, ⟨(.h (.gt .no)), [], []⟩), (18, ⟨(.h (.gt .no)), [], []⟩), (19, ⟨(.h (.gt .no)), [], []⟩), (20, ⟨(.h .gf), [], []⟩), (21, ⟨(.h .gf), [], []⟩), (22, ⟨(.h .gf), [], []⟩), (23, ⟨(.h .gf), [], []⟩), (24, ⟨(.h (.gt .gf)), [], []⟩), (25, ⟨(.h .gf), [], []⟩), (28, ⟨(.c true [] ⟨[], [], [], 0, (.im (eB v2)), [], 0, [], 0⟩), [], []⟩)], .b true, .r [], .k ⟨[], [], [], [], [], 0, [(0, (.s [(.n 1)]))], []⟩])
              (r := (.fin (.tup [(.im (.sl 1 [])), (.im (.ifc 40 (eI .i64 1)))]) [] 0)) (obs := [((p0.map (eI .u64)).length : Int) = (p0.length : Int), (decide ((p0.length : Int) < 2)) = false, (decide ((p0.length : Int) < 2)) = false, ((p0.map (eI .u64)).length : Int) = (p0.length : Int), (decide ((p0.length : Int) < 2)) = false, (decide ((p0.length : Int) < 2)) = false, (decide ((p0.length : Int) > 16)) = false, (decide ((p0.length : Int) > 16)) = false, 0 ≤ 0, (p0.map (eI .u64))[0]? = some (eI .u64 v1), (decide ((p0.length : Int) > 16)) = false, (decide ((p0.length : Int) > 16)) = false, (decide ((p0.length : Int) > 16)) = false, (decide (v1 > 2)) = false, (decide (v1 > 2)) = false, 0 ≤ 0, (p0.map (eI .u64))[0]? = some (eI .u64 v1), (decide (v1 > 2)) = false, (decide (v1 > 2)) = false, (decide (v1 > 2)) = false, (decide (v1 < 2)) = !true, (decide (v1 < 2)) = !true, (decide (v1 < 2)) = !true, (decide (v1 < 2)) = !true, (decide (v1 > 2)) = false, (decide (v1 < 2)) = false, (decide (v1 > 2)) = false, false = false, Ct.Ok PX 155 ⟨[(.im (.sl 1 (p0.map (eI .u64)))), (.im (.fn 156 []))], [], 0, (.im (eB v2)), [], 0⟩, v2 = true])
              (by kernel_rfl) ⟨(len_m (eI .u64) _), (df h1), (df h1), (len_m (eI .u64) _), (df h1), (df h1), (df h2), (df h2), (rd_nn h3), (rd_map (eI .u64) h3), (df h2), (df h2), (df h2), (df h4), (df h4), (rd_nn h3), (rd_map (eI .u64) h3), (df h4), (df h4), (df h4), (df h5), (df h5), (df h5), (df h5), (df h4), (df h5), (df h4), rfl, (f155_ok k p0 v2 h6), h7, trivial⟩ (fun fn hfn => ⟨rfl, rfl, rfl⟩)
          · rw [if_neg h7] at h
            obtain ⟨v3, h8, h⟩ := bnd h
            exact Ct.ofWalk hT hm F123 (by kernel_rfl) (n := 1000) (ds := [.r [], .r [(1, ⟨(.h (.int (p0.length : Int))), [], []⟩), (4, ⟨(.h (.gt .no)), [], []⟩), (5, ⟨(.h (.gt (.int (p0.length : Int)))), [], []⟩), (6, ⟨(.h (.gt .no)), [], []⟩), (7, ⟨(.h .gf), [], []⟩), (9, ⟨(.h (.gt .no)), [], []⟩), (10, ⟨(.h (.gt (.iv (eI .u64 v1)))), [], []⟩), (11, ⟨(.h (.gt .no)), [], []⟩), (12, ⟨(.h (.gt .no)), [], []⟩), (13, ⟨(.h .gf), [], []⟩), (15, ⟨(.h (.gt .no)), [], []⟩), (16, ⟨(.h (.gt (.iv (eI .u64 v1)))), [], []⟩), (17, ⟨(.h (.gt .no)), [], []⟩), (18, ⟨(.h (.gt .no)), [], []⟩), (19, ⟨(.h (.gt .no)), [], []⟩), (20, ⟨(.h .gf), [], []⟩), (21, ⟨(.h .gf), [], []⟩), (22, ⟨(.h .gf), [], []⟩), (23, ⟨(.h .gf), [], []⟩), (24, ⟨(.h (.gt .gf)), [], []⟩), (25, ⟨(.h .gf), [], []⟩), (28, ⟨(.c true [] ⟨[], [], [], 0, (.im (eB v2)), [], 0, [], 0⟩), [], []⟩)], .b false, .r [], .r [(1, ⟨(.h (.ivs (v3.map (eI .u64)))), [], []⟩), (2, ⟨(.h (.int (v3.length : Int))), [], []⟩)], .k ⟨[], [(4, 5, 1)], [], [0, 4, 42, 43, 44], [(0, 0)], 1, [], []⟩])
              (r := (.head cc123_0 [.blk 0, .seq cc123_1] (f123L0_S p0 [] v3 (v3.length : Int) 0))) (obs := [((p0.map (eI .u64)).length : Int) = (p0.length : Int), (decide ((p0.length : Int) < 2)) = false, (decide ((p0.length : Int) < 2)) = false, ((p0.map (eI .u64)).length : Int) = (p0.length : Int), (decide ((p0.length : Int) < 2)) = false, (decide ((p0.length : Int) < 2)) = false, (decide ((p0.length : Int) > 16)) = false, (decide ((p0.length : Int) > 16)) = false, 0 ≤ 0, (p0.map (eI .u64))[0]? = some (eI .u64 v1), (decide ((p0.length : Int) > 16)) = false, (decide ((p0.length : Int) > 16)) = false, (decide ((p0.length : Int) > 16)) = false, (decide (v1 > 2)) = false, (decide (v1 > 2)) = false, 0 ≤ 0, (p0.map (eI .u64))[0]? = some (eI .u64 v1), (decide (v1 > 2)) = false, (decide (v1 > 2)) = false, (decide (v1 > 2)) = false, (decide (v1 < 2)) = !true, (decide (v1 < 2)) = !true, (decide (v1 < 2)) = !true, (decide (v1 < 2)) = !true, (decide (v1 > 2)) = false, (decide (v1 < 2)) = false, (decide (v1 > 2)) = false, false = false, Ct.Ok PX 155 ⟨[(.im (.sl 1 (p0.map (eI .u64)))), (.im (.fn 156 []))], [], 0, (.im (eB v2)), [], 0⟩, v2 = false, (0 : Int) ≤ 1, (1 : Int) ≤ ((p0.map (eI .u64)).length : Int), ((p0.map (eI .u64)).length : Int) ≤ ((p0.map (eI .u64)).length : Int), ((p0.map (eI .u64)).drop (1 : Int).toNat).take ((((p0.map (eI .u64)).length : Int) : Int).toNat - (1 : Int).toNat) = (v3.map (eI .u64)), ((v3.map (eI .u64)).length : Int) = (v3.length : Int)])
              (by kernel_rfl) ⟨(len_m (eI .u64) _), (df h1), (df h1), (len_m (eI .u64) _), (df h1), (df h1), (df h2), (df h2), (rd_nn h3), (rd_map (eI .u64) h3), (df h2), (df h2), (df h2), (df h4), (df h4), (rd_nn h3), (rd_map (eI .u64) h3), (df h4), (df h4), (df h4), (df h5), (df h5), (df h5), (df h5), (df h4), (df h5), (df h4), rfl, (f155_ok k p0 v2 h6), (vf h7), (sl_ok h8).1, (by have q := (sl_ok h8).2.1; simpa using q), (Int.le_refl _), (by have q := sl_map (eI .u64) h8; simpa using q), (len_m (eI .u64) _), trivial⟩ (fun fn hfn => f123L0_ok fn hfn k p0 [] v3 (v3.length : Int) 0 _ h)
end Go.Proofs.Tryd.E
end

section
namespace Go.Proofs.Tryd.E
open Go Go.Eng
set_option maxRecDepth 100000
set_option linter.unusedVariables false
def f78 (k : Nat) (p0 : (List Int)) : Option (STlv) :=
  (f123 k p0).bind fun v1 =>
  Er.on v1.2 (
   (f77 k 6 v1.1).bind fun v2 =>
   some v2)
   (fun v2 =>
   some (STlv.mk 0 0 false [] []))
   (fun v2 v3 =>
   some (STlv.mk 0 0 false [] []))

theorem f78_ok (k : Nat) : ∀ (p0 : (List Int)) (r : STlv), f78 k p0 = some r → Ct.Ok PX 78 ⟨[(.im (.sl 1 (p0.map (eI .u64))))], [], 0, (.im (.st [(1, (eI .i64 r.Class)), (1, (eI .i64 r.Tag)), (1, (eB r.Made)), (1, (.sl 1 (r.Body.map (eI .u8)))), (1, (.sl 5 (r.Kids.map eSTlv)))])), [], 0⟩ := by
  intro p0 r h
  unfold f78 at h
  obtain ⟨v1, h1, h⟩ := bnd h
  rcases h2 : v1.2 with _ | v2 | ⟨v2, v3⟩
  · rw [h2] at h; dsimp only [Er.on] at h
    obtain ⟨v2, h3, h⟩ := bnd h
    replace h := Option.some.inj h; subst h
    exact Ct.ofWalk hT hm F78 (by kernel_rfl) (n := 1000) (ds := [.r [], .r [(1, ⟨(.c false [] ⟨[], [], [], 0, (.tup [(.im (.sl 1 (v1.1.map (eI .u8)))), (.im (.v .nilIface))]), [], 0, [], 1⟩), [], []⟩)], .r [], .bc false, .r [(1, ⟨(.c false [] ⟨[], [], [], 0, (.im (.st [(1, (eI .i64 v2.Class)), (1, (eI .i64 v2.Tag)), (1, (eB v2.Made)), (1, (.sl 1 (v2.Body.map (eI .u8)))), (1, (.sl 5 (v2.Kids.map eSTlv)))])), [], 0, [], 1⟩), [], []⟩)], .k ⟨[], [], [], [], [], 0, [], []⟩])
      (r := (.fin (.im (.st [(1, (eI .i64 v2.Class)), (1, (eI .i64 v2.Tag)), (1, (eB v2.Made)), (1, (.sl 1 (v2.Body.map (eI .u8)))), (1, (.sl 5 (v2.Kids.map eSTlv)))])) [] 0)) (obs := [Ct.Ok PX 123 ⟨[(.im (.sl 1 (p0.map (eI .u64))))], [], 0, (.tup [(.im (.sl 1 (v1.1.map (eI .u8)))), (.im (.v .nilIface))]), [], 0⟩, Ct.Ok PX 77 ⟨[(.im (eI .i64 6)), (.im (.sl 1 (v1.1.map (eI .u8))))], [], 0, (.im (.st [(1, (eI .i64 v2.Class)), (1, (eI .i64 v2.Tag)), (1, (eB v2.Made)), (1, (.sl 1 (v2.Body.map (eI .u8)))), (1, (.sl 5 (v2.Kids.map eSTlv)))])), [], 0⟩])
      (by kernel_rfl) ⟨(by have q := (f123_ok k p0 v1 h1); rw [h2] at q; exact q), (f77_ok k 6 v1.1 v2 h3), trivial⟩ (fun fn hfn => ⟨rfl, rfl, rfl⟩)
  · rw [h2] at h; dsimp only [Er.on] at h
    replace h := Option.some.inj h; subst h
    exact Ct.ofWalk hT hm F78 (by kernel_rfl) (n := 1000) (ds := [.r [], .r [(1, ⟨(.c false [] ⟨[], [], [], 0, (.tup [(.im (.sl 1 (v1.1.map (eI .u8)))), (.im (.ifc 40 (eI .i64 v2)))]), [], 0, [], 1⟩), [], []⟩)], .r [], .bc true, .r [], .k ⟨[], [], [], [], [], 0, [(0, (.s [.k, .k, .k, (.n 1), (.n 5)]))], []⟩])
      (r := (.fin (.im (.st [(1, (eI .i64 0)), (1, (eI .i64 0)), (1, (eB false)), (1, (.sl 1 [])), (1, (.sl 5 []))])) [] 0)) (obs := [Ct.Ok PX 123 ⟨[(.im (.sl 1 (p0.map (eI .u64))))], [], 0, (.tup [(.im (.sl 1 (v1.1.map (eI .u8)))), (.im (.ifc 40 (eI .i64 v2)))]), [], 0⟩])
      (by kernel_rfl) ⟨(by have q := (f123_ok k p0 v1 h1); rw [h2] at q; exact q), trivial⟩ (fun fn hfn => ⟨rfl, rfl, rfl⟩)
  · rw [h2] at h; dsimp only [Er.on] at h
    replace h := Option.some.inj h; subst h
    exact Ct.ofWalk hT hm F78 (by kernel_rfl) (n := 1000) (ds := [.r [], .r [(1, ⟨(.c false [] ⟨[], [], [], 0, (.tup [(.im (.sl 1 (v1.1.map (eI .u8)))), (.im (.ifc 77 (.pim 2 (.st [(1, (eI .i64 v2)), (1, (.ifc 40 (eI .i64 v3)))]))))]), [], 0, [], 1⟩), [], []⟩)], .r [], .bc true, .r [], .k ⟨[], [], [], [], [], 0, [(0, (.s [.k, .k, .k, (.n 1), (.n 5)]))], []⟩])
      (r := (.fin (.im (.st [(1, (eI .i64 0)), (1, (eI .i64 0)), (1, (eB false)), (1, (.sl 1 [])), (1, (.sl 5 []))])) [] 0)) (obs := [Ct.Ok PX 123 ⟨[(.im (.sl 1 (p0.map (eI .u64))))], [], 0, (.tup [(.im (.sl 1 (v1.1.map (eI .u8)))), (.im (.ifc 77 (.pim 2 (.st [(1, (eI .i64 v2)), (1, (.ifc 40 (eI .i64 v3)))]))))]), [], 0⟩])
      (by kernel_rfl) ⟨(by have q := (f123_ok k p0 v1 h1); rw [h2] at q; exact q), trivial⟩ (fun fn hfn => ⟨rfl, rfl, rfl⟩)

def f37 (k : Nat) : Option (STlv) :=
  (f78 k [1, 2, 840, 10045, 4, 3, 3]).bind fun v1 =>
  (f35 k [v1]).bind fun v2 =>
  some (STlv.mk v2.1 v2.2.1 v2.2.2.1 [] v2.2.2.2)

theorem f37_ok (k : Nat) : ∀  (r : STlv), f37 k = some r → Ct.Ok PX 37 ⟨[], [], 0, (.im (.st [(1, (eI .i64 r.Class)), (1, (eI .i64 r.Tag)), (1, (eB r.Made)), (1, (.sl 1 (r.Body.map (eI .u8)))), (1, (.sl 5 (r.Kids.map eSTlv)))])), [], 0⟩ := by
  intro r h
  unfold f37 at h
  obtain ⟨v1, h1, h⟩ := bnd h
  obtain ⟨v2, h2, h⟩ := bnd h
  replace h := Option.some.inj h; subst h
  exact Ct.ofWalk hT hm F37 (by kernel_rfl) (n := 1000) (ds := [.r [], .r [(1, ⟨(.c false [1] ⟨[], [], [], 0, (.im (.st [(1, (eI .i64 v1.Class)), (1, (eI .i64 v1.Tag)), (1, (eB v1.Made)), (1, (.sl 1 (v1.Body.map (eI .u8)))), (1, (.sl 5 (v1.Kids.map eSTlv)))])), [], 0, [], 2⟩), [], []⟩), (3, ⟨(.c false [] ⟨[(0, 2)], [], [(0, (.e (.arr 0 ([v1].map eSTlv))))], 1, (.st [(1, (.im (eI .i64 v2.1))), (1, (.im (eI .i64 v2.2.1))), (1, (.im (eB v2.2.2.1))), (1, (.im (.v (.slice none 0 0)))), (1, (.ownF 5 1))]), [(1, (.row 35 5 (v2.2.2.2.map eSTlv) 0))], 2, [(3, 1)], 4⟩), [], []⟩)], .k ⟨[], [], [3], [], [], 0, [(0, (.s [.k, .k, .k, (.n 1)]))], []⟩])
    (r := (.fin (.im (.st [(1, (eI .i64 v2.1)), (1, (eI .i64 v2.2.1)), (1, (eB v2.2.2.1)), (1, (.sl 1 [])), (1, (.sl 5 (v2.2.2.2.map eSTlv)))])) [] 0)) (obs := [Ct.Ok PX 78 ⟨[(.im (.sl 1 [(eI .u64 1), (eI .u64 2), (eI .u64 840), (eI .u64 10045), (eI .u64 4), (eI .u64 3), (eI .u64 3)]))], [], 0, (.im (.st [(1, (eI .i64 v1.Class)), (1, (eI .i64 v1.Tag)), (1, (eB v1.Made)), (1, (.sl 1 (v1.Body.map (eI .u8)))), (1, (.sl 5 (v1.Kids.map eSTlv)))])), [], 0⟩, Ct.Ok PX 35 ⟨[(.ownF 5 0)], [(0, (.row 35 5 ([v1].map eSTlv) 0))], 1, (.st [(1, (.im (eI .i64 v2.1))), (1, (.im (eI .i64 v2.2.1))), (1, (.im (eB v2.2.2.1))), (1, (.im (.v (.slice none 0 0)))), (1, (.ownF 5 1))]), [(1, (.row 35 5 (v2.2.2.2.map eSTlv) 0))], 2⟩, [(.st [(1, (eI .i64 v1.Class)), (1, (eI .i64 v1.Tag)), (1, (eB v1.Made)), (1, (.sl 1 (v1.Body.map (eI .u8)))), (1, (.sl 5 (v1.Kids.map eSTlv)))])] = ([v1].map eSTlv)])
    (by kernel_rfl) ⟨(f78_ok k [1, 2, 840, 10045, 4, 3, 3] v1 h1), (f35_ok k [v1] v2 h2), (show [(.st [(1, (eI .i64 v1.Class)), (1, (eI .i64 v1.Tag)), (1, (eB v1.Made)), (1, (.sl 1 (v1.Body.map (eI .u8)))), (1, (.sl 5 (v1.Kids.map eSTlv)))])] = [v1].map eSTlv from by simp only [List.map_cons, List.map_nil, eSTlv_eq, STlv.Class, STlv.Tag, STlv.Made, STlv.Body, STlv.Kids]), trivial⟩ (fun fn hfn => ⟨rfl, rfl, rfl⟩)
end Go.Proofs.Tryd.E
end

section
namespace Go.Proofs.Tryd.E
open Go Go.Eng
set_option maxRecDepth 100000
set_option linter.unusedVariables false
def f18 (k : Nat) (p0 : SCrl) : Option ((List Int) × Er) :=
  if (p0.Gone.length : Int) > 64 then (
   some ([], (Er.code 1)))
  else (
   (f33 k p0.Issuer).bind fun v1 =>
   Er.on v1.2 (
    (f34 k p0.This).bind fun v2 =>
    (f34 k p0.Next).bind fun v3 =>
    if v2.2 = true then (
     if v3.2 = true then (
      (f36 k).bind fun v4 =>
      (f37 k).bind fun v5 =>
      (f35 k [v4, v5, v1.1, v2.1, v3.1]).bind fun v6 =>
      f18L0 k p0 [] 0 v6.1 v6.2.1 v6.2.2.1 v6.2.2.2)
     else (
      some ([], (Er.code 1))))
    else (
     some ([], (Er.code 1))))
    (fun v2 =>
    (f34 k p0.This).bind fun v3 =>
    (f34 k p0.Next).bind fun v4 =>
    some ([], (Er.code 1)))
    (fun v2 v3 =>
    (f34 k p0.This).bind fun v4 =>
    (f34 k p0.Next).bind fun v5 =>
    some ([], (Er.code 1))))

theorem f18_ok (k : Nat) : ∀ (p0 : SCrl) (r : (List Int) × Er), f18 k p0 = some r → Ct.Ok PX 18 ⟨[(.im (.st [(1, (.sl 2 (p0.Issuer.map eSPart))), (1, (eI .i64 p0.This)), (1, (eI .i64 p0.Next)), (1, (.sl 2 (p0.Gone.map eSGone))), (1, (.sl 1 (p0.Body.map (eI .u8)))), (12, (.st [(6, (.arr 1 (p0.Sig.R.l.map (eI .u64)))), (6, (.arr 1 (p0.Sig.S.l.map (eI .u64))))]))]))], [], 0, (.tup [(.im (.sl 1 (r.1.map (eI .u8)))), (.im (eEr r.2))]), [], 0⟩ := by
  intro p0 r h
  unfold f18 at h
  by_cases h1 : (p0.Gone.length : Int) > 64
  · rw [if_pos h1] at h
    replace h := Option.some.inj h; subst h
    exact Ct.ofWalk hT hm F18 (by kernel_rfl) (n := 1000) (ds := [.r [], .r [(2, ⟨(.h (.int (p0.Gone.length : Int))), [], []⟩)], .b true, .r [], .k ⟨[], [], [], [], [], 0, [(0, (.s [(.n 1)]))], []⟩])
      (r := (.fin (.tup [(.im (.sl 1 [])), (.im (.ifc 40 (eI .i64 1)))]) [] 0)) (obs := [((p0.Gone.map eSGone).length : Int) = (p0.Gone.length : Int), (decide ((p0.Gone.length : Int) > 64)) = true])
      (by kernel_rfl) ⟨(len_m eSGone _), (dt h1), trivial⟩ (fun fn hfn => ⟨rfl, rfl, rfl⟩)
  · rw [if_neg h1] at h
    obtain ⟨v1, h2, h⟩ := bnd h
    rcases h3 : v1.2 with _ | v2 | ⟨v2, v3⟩
    · rw [h3] at h; dsimp only [Er.on] at h
      obtain ⟨v2, h4, h⟩ := bnd h
      obtain ⟨v3, h5, h⟩ := bnd h
      by_cases h6 : v2.2 = true
      · rw [if_pos h6] at h
        by_cases h7 : v3.2 = true
        · rw [if_pos h7] at h
          obtain ⟨v4, h8, h⟩ := bnd h
          obtain ⟨v5, h9, h⟩ := bnd h
          obtain ⟨v6, h10, h⟩ := bnd h
          exact Ct.ofWalk hT hm F18 (by kernel_rfl) (n := 1000) (ds := [.r [], .r [(2, ⟨(.h (.int (p0.Gone.length : Int))), [], []⟩)], .b false, .r [(2, ⟨(.c false [] ⟨[], [], [], 0, (.tup [(.im (.st [(1, (eI .i64 v1.1.Class)), (1, (eI .i64 v1.1.Tag)), (1, (eB v1.1.Made)), (1, (.sl 1 (v1.1.Body.map (eI .u8)))), (1, (.sl 5 (v1.1.Kids.map eSTlv)))])), (.im (.v .nilIface))]), [], 0, [], 1⟩), [], []⟩)], .r [(2, ⟨(.c false [] ⟨[], [], [], 0, (.tup [(.im (.st [(1, (eI .i64 v2.1.Class)), (1, (eI .i64 v2.1.Tag)), (1, (eB v2.1.Made)), (1, (.sl 1 (v2.1.Body.map (eI .u8)))), (1, (.sl 5 (v2.1.Kids.map eSTlv)))])), (.im (eB v2.2))]), [], 0, [], 2⟩), [], []⟩)], .r [(2, ⟨(.c false [] ⟨[], [], [], 0, (.tup [(.im (.st [(1, (eI .i64 v3.1.Class)), (1, (eI .i64 v3.1.Tag)), (1, (eB v3.1.Made)), (1, (.sl 1 (v3.1.Body.map (eI .u8)))), (1, (.sl 5 (v3.1.Kids.map eSTlv)))])), (.im (eB v3.2))]), [], 0, [], 3⟩), [], []⟩)], .r [(7, ⟨(.h (.gt .no)), [], []⟩), (8, ⟨(.h (.gt .no)), [], []⟩), (9, ⟨(.h .gf), [], []⟩)], .b false, .r [(0, ⟨(.c false [] ⟨[], [], [], 0, (.im (.st [(1, (eI .i64 v4.Class)), (1, (eI .i64 v4.Tag)), (1, (eB v4.Made)), (1, (.sl 1 (v4.Body.map (eI .u8)))), (1, (.sl 5 (v4.Kids.map eSTlv)))])), [], 0, [], 4⟩), [], []⟩), (1, ⟨(.c false [] ⟨[], [], [], 0, (.im (.st [(1, (eI .i64 v5.Class)), (1, (eI .i64 v5.Tag)), (1, (eB v5.Made)), (1, (.sl 1 (v5.Body.map (eI .u8)))), (1, (.sl 5 (v5.Kids.map eSTlv)))])), [], 0, [], 4⟩), [], []⟩), (6, ⟨(.c false [] ⟨[(0, 4)], [], [(0, (.e (.arr 0 ([v4, v5, v1.1, v2.1, v3.1].map eSTlv))))], 1, (.st [(1, (.im (eI .i64 v6.1))), (1, (.im (eI .i64 v6.2.1))), (1, (.im (eB v6.2.2.1))), (1, (.im (.v (.slice none 0 0)))), (1, (.ownF 5 1))]), [(1, (.row 35 5 (v6.2.2.2.map eSTlv) 0))], 2, [(5, 1)], 6⟩), [], []⟩)], .r [], .r [(2, ⟨(.h (.int (p0.Gone.length : Int))), [], []⟩)], .k ⟨[], [(11, 35, 5)], [], [10, 11, 60, 61, 62], [(0, 6), (1, 7), (2, 5)], 3, [], []⟩])
            (r := (.head cc18_0 [.blk 0, .seq cc18_1] (f18L0_S p0 [] 0 v6.1 v6.2.1 v6.2.2.1 v6.2.2.2))) (obs := [((p0.Gone.map eSGone).length : Int) = (p0.Gone.length : Int), (decide ((p0.Gone.length : Int) > 64)) = false, Ct.Ok PX 33 ⟨[(.im (.sl 2 (p0.Issuer.map eSPart)))], [], 0, (.tup [(.im (.st [(1, (eI .i64 v1.1.Class)), (1, (eI .i64 v1.1.Tag)), (1, (eB v1.1.Made)), (1, (.sl 1 (v1.1.Body.map (eI .u8)))), (1, (.sl 5 (v1.1.Kids.map eSTlv)))])), (.im (.v .nilIface))]), [], 0⟩, Ct.Ok PX 34 ⟨[(.im (eI .i64 p0.This))], [], 0, (.tup [(.im (.st [(1, (eI .i64 v2.1.Class)), (1, (eI .i64 v2.1.Tag)), (1, (eB v2.1.Made)), (1, (.sl 1 (v2.1.Body.map (eI .u8)))), (1, (.sl 5 (v2.1.Kids.map eSTlv)))])), (.im (eB v2.2))]), [], 0⟩, Ct.Ok PX 34 ⟨[(.im (eI .i64 p0.Next))], [], 0, (.tup [(.im (.st [(1, (eI .i64 v3.1.Class)), (1, (eI .i64 v3.1.Tag)), (1, (eB v3.1.Made)), (1, (.sl 1 (v3.1.Body.map (eI .u8)))), (1, (.sl 5 (v3.1.Kids.map eSTlv)))])), (.im (eB v3.2))]), [], 0⟩, (!v2.2) = false, (!v2.2) = false, (!v2.2) = false, (!v3.2) = false, Ct.Ok PX 36 ⟨[], [], 0, (.im (.st [(1, (eI .i64 v4.Class)), (1, (eI .i64 v4.Tag)), (1, (eB v4.Made)), (1, (.sl 1 (v4.Body.map (eI .u8)))), (1, (.sl 5 (v4.Kids.map eSTlv)))])), [], 0⟩, Ct.Ok PX 37 ⟨[], [], 0, (.im (.st [(1, (eI .i64 v5.Class)), (1, (eI .i64 v5.Tag)), (1, (eB v5.Made)), (1, (.sl 1 (v5.Body.map (eI .u8)))), (1, (.sl 5 (v5.Kids.map eSTlv)))])), [], 0⟩, Ct.Ok PX 35 ⟨[(.ownF 5 0)], [(0, (.row 35 5 ([v4, v5, v1.1, v2.1, v3.1].map eSTlv) 0))], 1, (.st [(1, (.im (eI .i64 v6.1))), (1, (.im (eI .i64 v6.2.1))), (1, (.im (eB v6.2.2.1))), (1, (.im (.v (.slice none 0 0)))), (1, (.ownF 5 1))]), [(1, (.row 35 5 (v6.2.2.2.map eSTlv) 0))], 2⟩, [(.st [(1, (eI .i64 v4.Class)), (1, (eI .i64 v4.Tag)), (1, (eB v4.Made)), (1, (.sl 1 (v4.Body.map (eI .u8)))), (1, (.sl 5 (v4.Kids.map eSTlv)))]), (.st [(1, (eI .i64 v5.Class)), (1, (eI .i64 v5.Tag)), (1, (eB v5.Made)), (1, (.sl 1 (v5.Body.map (eI .u8)))), (1, (.sl 5 (v5.Kids.map eSTlv)))]), (.st [(1, (eI .i64 v1.1.Class)), (1, (eI .i64 v1.1.Tag)), (1, (eB v1.1.Made)), (1, (.sl 1 (v1.1.Body.map (eI .u8)))), (1, (.sl 5 (v1.1.Kids.map eSTlv)))]), (.st [(1, (eI .i64 v2.1.Class)), (1, (eI .i64 v2.1.Tag)), (1, (eB v2.1.Made)), (1, (.sl 1 (v2.1.Body.map (eI .u8)))), (1, (.sl 5 (v2.1.Kids.map eSTlv)))]), (.st [(1, (eI .i64 v3.1.Class)), (1, (eI .i64 v3.1.Tag)), (1, (eB v3.1.Made)), (1, (.sl 1 (v3.1.Body.map (eI .u8)))), (1, (.sl 5 (v3.1.Kids.map eSTlv)))])] = ([v4, v5, v1.1, v2.1, v3.1].map eSTlv), ((p0.Gone.map eSGone).length : Int) = (p0.Gone.length : Int)])
            (by kernel_rfl) ⟨(len_m eSGone _), (df h1), (by have q := (f33_ok k p0.Issuer v1 h2); rw [h3] at q; exact q), (f34_ok k p0.This v2 h4), (f34_ok k p0.Next v3 h5), (not_f h6), (not_f h6), (not_f h6), (not_f h7), (f36_ok k v4 h8), (f37_ok k v5 h9), (f35_ok k [v4, v5, v1.1, v2.1, v3.1] v6 h10), (show [(.st [(1, (eI .i64 v4.Class)), (1, (eI .i64 v4.Tag)), (1, (eB v4.Made)), (1, (.sl 1 (v4.Body.map (eI .u8)))), (1, (.sl 5 (v4.Kids.map eSTlv)))]), (.st [(1, (eI .i64 v5.Class)), (1, (eI .i64 v5.Tag)), (1, (eB v5.Made)), (1, (.sl 1 (v5.Body.map (eI .u8)))), (1, (.sl 5 (v5.Kids.map eSTlv)))]), (.st [(1, (eI .i64 v1.1.Class)), (1, (eI .i64 v1.1.Tag)), (1, (eB v1.1.Made)), (1, (.sl 1 (v1.1.Body.map (eI .u8)))), (1, (.sl 5 (v1.1.Kids.map eSTlv)))]), (.st [(1, (eI .i64 v2.1.Class)), (1, (eI .i64 v2.1.Tag)), (1, (eB v2.1.Made)), (1, (.sl 1 (v2.1.Body.map (eI .u8)))), (1, (.sl 5 (v2.1.Kids.map eSTlv)))]), (.st [(1, (eI .i64 v3.1.Class)), (1, (eI .i64 v3.1.Tag)), (1, (eB v3.1.Made)), (1, (.sl 1 (v3.1.Body.map (eI .u8)))), (1, (.sl 5 (v3.1.Kids.map eSTlv)))])] = [v4, v5, v1.1, v2.1, v3.1].map eSTlv from by simp only [List.map_cons, List.map_nil, eSTlv_eq, STlv.Class, STlv.Tag, STlv.Made, STlv.Body, STlv.Kids]), (len_m eSGone _), trivial⟩ (fun fn hfn => f18L0_ok fn hfn k p0 [] 0 v6.1 v6.2.1 v6.2.2.1 v6.2.2.2 _ h)
        · rw [if_neg h7] at h
          replace h := Option.some.inj h; subst h
          exact Ct.ofWalk hT hm F18 (by kernel_rfl) (n := 1000) (ds := [.r [], .r [(2, ⟨(.h (.int (p0.Gone.length : Int))), [], []⟩)], .b false, .r [(2, ⟨(.c false [] ⟨[], [], [], 0, (.tup [(.im (.st [(1, (eI .i64 v1.1.Class)), (1, (eI .i64 v1.1.Tag)), (1, (eB v1.1.Made)), (1, (.sl 1 (v1.1.Body.map (eI .u8)))), (1, (.sl 5 (v1.1.Kids.map eSTlv)))])), (.im (.v .nilIface))]), [], 0, [], 1⟩), [], []⟩)], .r [(2, ⟨(.c false [] ⟨[], [], [], 0, (.tup [(.im (.st [(1, (eI .i64 v2.1.Class)), (1, (eI .i64 v2.1.Tag)), (1, (eB v2.1.Made)), (1, (.sl 1 (v2.1.Body.map (eI .u8)))), (1, (.sl 5 (v2.1.Kids.map eSTlv)))])), (.im (eB v2.2))]), [], 0, [], 2⟩), [], []⟩)], .r [(2, ⟨(.c false [] ⟨[], [], [], 0, (.tup [(.im (.st [(1, (eI .i64 v3.1.Class)), (1, (eI .i64 v3.1.Tag)), (1, (eB v3.1.Made)), (1, (.sl 1 (v3.1.Body.map (eI .u8)))), (1, (.sl 5 (v3.1.Kids.map eSTlv)))])), (.im (eB v3.2))]), [], 0, [], 3⟩), [], []⟩)], .r [(7, ⟨(.h (.gt .no)), [], []⟩), (8, ⟨(.h (.gt .no)), [], []⟩), (9, ⟨(.h .gf), [], []⟩)], .b true, .r [], .k ⟨[], [], [], [], [], 0, [(0, (.s [(.n 1)]))], []⟩])
            (r := (.fin (.tup [(.im (.sl 1 [])), (.im (.ifc 40 (eI .i64 1)))]) [] 0)) (obs := [((p0.Gone.map eSGone).length : Int) = (p0.Gone.length : Int), (decide ((p0.Gone.length : Int) > 64)) = false, Ct.Ok PX 33 ⟨[(.im (.sl 2 (p0.Issuer.map eSPart)))], [], 0, (.tup [(.im (.st [(1, (eI .i64 v1.1.Class)), (1, (eI .i64 v1.1.Tag)), (1, (eB v1.1.Made)), (1, (.sl 1 (v1.1.Body.map (eI .u8)))), (1, (.sl 5 (v1.1.Kids.map eSTlv)))])), (.im (.v .nilIface))]), [], 0⟩, Ct.Ok PX 34 ⟨[(.im (eI .i64 p0.This))], [], 0, (.tup [(.im (.st [(1, (eI .i64 v2.1.Class)), (1, (eI .i64 v2.1.Tag)), (1, (eB v2.1.Made)), (1, (.sl 1 (v2.1.Body.map (eI .u8)))), (1, (.sl 5 (v2.1.Kids.map eSTlv)))])), (.im (eB v2.2))]), [], 0⟩, Ct.Ok PX 34 ⟨[(.im (eI .i64 p0.Next))], [], 0, (.tup [(.im (.st [(1, (eI .i64 v3.1.Class)), (1, (eI .i64 v3.1.Tag)), (1, (eB v3.1.Made)), (1, (.sl 1 (v3.1.Body.map (eI .u8)))), (1, (.sl 5 (v3.1.Kids.map eSTlv)))])), (.im (eB v3.2))]), [], 0⟩, (!v2.2) = false, (!v2.2) = false, (!v2.2) = false, (!v3.2) = true])
            (by kernel_rfl) ⟨(len_m eSGone _), (df h1), (by have q := (f33_ok k p0.Issuer v1 h2); rw [h3] at q; exact q), (f34_ok k p0.This v2 h4), (f34_ok k p0.Next v3 h5), (not_f h6), (not_f h6), (not_f h6), (not_t (vf h7)), trivial⟩ (fun fn hfn => ⟨rfl, rfl, rfl⟩)
      · rw [if_neg h6] at h
        replace h := Option.some.inj h; subst h
        exact Ct.ofWalk hT hm F18 (by kernel_rfl) (n := 1000) (ds := [.r [], .r [(2, ⟨(.h (.int (p0.Gone.length : Int))), [], []⟩)], .b false, .r [(2, ⟨(.c false [] ⟨[], [], [], 0, (.tup [(.im (.st [(1, (eI .i64 v1.1.Class)), (1, (eI .i64 v1.1.Tag)), (1, (eB v1.1.Made)), (1, (.sl 1 (v1.1.Body.map (eI .u8)))), (1, (.sl 5 (v1.1.Kids.map eSTlv)))])), (.im (.v .nilIface))]), [], 0, [], 1⟩), [], []⟩)], .r [(2, ⟨(.c false [] ⟨[], [], [], 0, (.tup [(.im (.st [(1, (eI .i64 v2.1.Class)), (1, (eI .i64 v2.1.Tag)), (1, (eB v2.1.Made)), (1, (.sl 1 (v2.1.Body.map (eI .u8)))), (1, (.sl 5 (v2.1.Kids.map eSTlv)))])), (.im (eB v2.2))]), [], 0, [], 2⟩), [], []⟩)], .r [(2, ⟨(.c false [] ⟨[], [], [], 0, (.tup [(.im (.st [(1, (eI .i64 v3.1.Class)), (1, (eI .i64 v3.1.Tag)), (1, (eB v3.1.Made)), (1, (.sl 1 (v3.1.Body.map (eI .u8)))), (1, (.sl 5 (v3.1.Kids.map eSTlv)))])), (.im (eB v3.2))]), [], 0, [], 3⟩), [], []⟩)], .r [(7, ⟨(.h .gf), [], []⟩), (8, ⟨(.h .gf), [], []⟩), (9, ⟨(.h (.gt .no)), [], []⟩)], .bc true, .r [], .k ⟨[], [], [], [], [], 0, [(0, (.s [(.n 1)]))], []⟩])
          (r := (.fin (.tup [(.im (.sl 1 [])), (.im (.ifc 40 (eI .i64 1)))]) [] 0)) (obs := [((p0.Gone.map eSGone).length : Int) = (p0.Gone.length : Int), (decide ((p0.Gone.length : Int) > 64)) = false, Ct.Ok PX 33 ⟨[(.im (.sl 2 (p0.Issuer.map eSPart)))], [], 0, (.tup [(.im (.st [(1, (eI .i64 v1.1.Class)), (1, (eI .i64 v1.1.Tag)), (1, (eB v1.1.Made)), (1, (.sl 1 (v1.1.Body.map (eI .u8)))), (1, (.sl 5 (v1.1.Kids.map eSTlv)))])), (.im (.v .nilIface))]), [], 0⟩, Ct.Ok PX 34 ⟨[(.im (eI .i64 p0.This))], [], 0, (.tup [(.im (.st [(1, (eI .i64 v2.1.Class)), (1, (eI .i64 v2.1.Tag)), (1, (eB v2.1.Made)), (1, (.sl 1 (v2.1.Body.map (eI .u8)))), (1, (.sl 5 (v2.1.Kids.map eSTlv)))])), (.im (eB v2.2))]), [], 0⟩, Ct.Ok PX 34 ⟨[(.im (eI .i64 p0.Next))], [], 0, (.tup [(.im (.st [(1, (eI .i64 v3.1.Class)), (1, (eI .i64 v3.1.Tag)), (1, (eB v3.1.Made)), (1, (.sl 1 (v3.1.Body.map (eI .u8)))), (1, (.sl 5 (v3.1.Kids.map eSTlv)))])), (.im (eB v3.2))]), [], 0⟩, (!v2.2) = !false, (!v2.2) = !false, (!v2.2) = true])
          (by kernel_rfl) ⟨(len_m eSGone _), (df h1), (by have q := (f33_ok k p0.Issuer v1 h2); rw [h3] at q; exact q), (f34_ok k p0.This v2 h4), (f34_ok k p0.Next v3 h5), (not_t (vf h6)), (not_t (vf h6)), (not_t (vf h6)), trivial⟩ (fun fn hfn => ⟨rfl, rfl, rfl⟩)
    · rw [h3] at h; dsimp only [Er.on] at h
      obtain ⟨v3, h4, h⟩ := bnd h
      obtain ⟨v4, h5, h⟩ := bnd h
      replace h := Option.some.inj h; subst h
      exact Ct.ofWalk hT hm F18 (by kernel_rfl) (n := 1000) (ds := [.r [], .r [(2, ⟨(.h (.int (p0.Gone.length : Int))), [], []⟩)], .b false, .r [(2, ⟨(.c false [] ⟨[], [], [], 0, (.tup [(.im (.st [(1, (eI .i64 v1.1.Class)), (1, (eI .i64 v1.1.Tag)), (1, (eB v1.1.Made)), (1, (.sl 1 (v1.1.Body.map (eI .u8)))), (1, (.sl 5 (v1.1.Kids.map eSTlv)))])), (.im (.ifc 40 (eI .i64 v2)))]), [], 0, [], 1⟩), [], []⟩)], .r [(2, ⟨(.c false [] ⟨[], [], [], 0, (.tup [(.im (.st [(1, (eI .i64 v3.1.Class)), (1, (eI .i64 v3.1.Tag)), (1, (eB v3.1.Made)), (1, (.sl 1 (v3.1.Body.map (eI .u8)))), (1, (.sl 5 (v3.1.Kids.map eSTlv)))])), (.im (eB v3.2))]), [], 0, [], 2⟩), [], []⟩)], .r [(2, ⟨(.c false [] ⟨[], [], [], 0, (.tup [(.im (.st [(1, (eI .i64 v4.1.Class)), (1, (eI .i64 v4.1.Tag)), (1, (eB v4.1.Made)), (1, (.sl 1 (v4.1.Body.map (eI .u8)))), (1, (.sl 5 (v4.1.Kids.map eSTlv)))])), (.im (eB v4.2))]), [], 0, [], 3⟩), [], []⟩)], .r [], .bc true, .r [], .k ⟨[], [], [], [], [], 0, [(0, (.s [(.n 1)]))], []⟩])
        (r := (.fin (.tup [(.im (.sl 1 [])), (.im (.ifc 40 (eI .i64 1)))]) [] 0)) (obs := [((p0.Gone.map eSGone).length : Int) = (p0.Gone.length : Int), (decide ((p0.Gone.length : Int) > 64)) = false, Ct.Ok PX 33 ⟨[(.im (.sl 2 (p0.Issuer.map eSPart)))], [], 0, (.tup [(.im (.st [(1, (eI .i64 v1.1.Class)), (1, (eI .i64 v1.1.Tag)), (1, (eB v1.1.Made)), (1, (.sl 1 (v1.1.Body.map (eI .u8)))), (1, (.sl 5 (v1.1.Kids.map eSTlv)))])), (.im (.ifc 40 (eI .i64 v2)))]), [], 0⟩, Ct.Ok PX 34 ⟨[(.im (eI .i64 p0.This))], [], 0, (.tup [(.im (.st [(1, (eI .i64 v3.1.Class)), (1, (eI .i64 v3.1.Tag)), (1, (eB v3.1.Made)), (1, (.sl 1 (v3.1.Body.map (eI .u8)))), (1, (.sl 5 (v3.1.Kids.map eSTlv)))])), (.im (eB v3.2))]), [], 0⟩, Ct.Ok PX 34 ⟨[(.im (eI .i64 p0.Next))], [], 0, (.tup [(.im (.st [(1, (eI .i64 v4.1.Class)), (1, (eI .i64 v4.1.Tag)), (1, (eB v4.1.Made)), (1, (.sl 1 (v4.1.Body.map (eI .u8)))), (1, (.sl 5 (v4.1.Kids.map eSTlv)))])), (.im (eB v4.2))]), [], 0⟩])
        (by kernel_rfl) ⟨(len_m eSGone _), (df h1), (by have q := (f33_ok k p0.Issuer v1 h2); rw [h3] at q; exact q), (f34_ok k p0.This v3 h4), (f34_ok k p0.Next v4 h5), trivial⟩ (fun fn hfn => ⟨rfl, rfl, rfl⟩)
    · rw [h3] at h; dsimp only [Er.on] at h
      obtain ⟨v4, h4, h⟩ := bnd h
      obtain ⟨v5, h5, h⟩ := bnd h
      replace h := Option.some.inj h; subst h
      exact Ct.ofWalk hT hm F18 (by kernel_rfl) (n := 1000) (ds := [.r [], .r [(2, ⟨(.h (.int (p0.Gone.length : Int))), [], []⟩)], .b false, .r [(2, ⟨(.c false [] ⟨[], [], [], 0, (.tup [(.im (.st [(1, (eI .i64 v1.1.Class)), (1, (eI .i64 v1.1.Tag)), (1, (eB v1.1.Made)), (1, (.sl 1 (v1.1.Body.map (eI .u8)))), (1, (.sl 5 (v1.1.Kids.map eSTlv)))])), (.im (.ifc 77 (.pim 2 (.st [(1, (eI .i64 v2)), (1, (.ifc 40 (eI .i64 v3)))]))))]), [], 0, [], 1⟩), [], []⟩)], .r [(2, ⟨(.c false [] ⟨[], [], [], 0, (.tup [(.im (.st [(1, (eI .i64 v4.1.Class)), (1, (eI .i64 v4.1.Tag)), (1, (eB v4.1.Made)), (1, (.sl 1 (v4.1.Body.map (eI .u8)))), (1, (.sl 5 (v4.1.Kids.map eSTlv)))])), (.im (eB v4.2))]), [], 0, [], 2⟩), [], []⟩)], .r [(2, ⟨(.c false [] ⟨[], [], [], 0, (.tup [(.im (.st [(1, (eI .i64 v5.1.Class)), (1, (eI .i64 v5.1.Tag)), (1, (eB v5.1.Made)), (1, (.sl 1 (v5.1.Body.map (eI .u8)))), (1, (.sl 5 (v5.1.Kids.map eSTlv)))])), (.im (eB v5.2))]), [], 0, [], 3⟩), [], []⟩)], .r [], .bc true, .r [], .k ⟨[], [], [], [], [], 0, [(0, (.s [(.n 1)]))], []⟩])
        (r := (.fin (.tup [(.im (.sl 1 [])), (.im (.ifc 40 (eI .i64 1)))]) [] 0)) (obs := [((p0.Gone.map eSGone).length : Int) = (p0.Gone.length : Int), (decide ((p0.Gone.length : Int) > 64)) = false, Ct.Ok PX 33 ⟨[(.im (.sl 2 (p0.Issuer.map eSPart)))], [], 0, (.tup [(.im (.st [(1, (eI .i64 v1.1.Class)), (1, (eI .i64 v1.1.Tag)), (1, (eB v1.1.Made)), (1, (.sl 1 (v1.1.Body.map (eI .u8)))), (1, (.sl 5 (v1.1.Kids.map eSTlv)))])), (.im (.ifc 77 (.pim 2 (.st [(1, (eI .i64 v2)), (1, (.ifc 40 (eI .i64 v3)))]))))]), [], 0⟩, Ct.Ok PX 34 ⟨[(.im (eI .i64 p0.This))], [], 0, (.tup [(.im (.st [(1, (eI .i64 v4.1.Class)), (1, (eI .i64 v4.1.Tag)), (1, (eB v4.1.Made)), (1, (.sl 1 (v4.1.Body.map (eI .u8)))), (1, (.sl 5 (v4.1.Kids.map eSTlv)))])), (.im (eB v4.2))]), [], 0⟩, Ct.Ok PX 34 ⟨[(.im (eI .i64 p0.Next))], [], 0, (.tup [(.im (.st [(1, (eI .i64 v5.1.Class)), (1, (eI .i64 v5.1.Tag)), (1, (eB v5.1.Made)), (1, (.sl 1 (v5.1.Body.map (eI .u8)))), (1, (.sl 5 (v5.1.Kids.map eSTlv)))])), (.im (eB v5.2))]), [], 0⟩])
        (by kernel_rfl) ⟨(len_m eSGone _), (df h1), (by have q := (f33_ok k p0.Issuer v1 h2); rw [h3] at q; exact q), (f34_ok k p0.This v4 h4), (f34_ok k p0.Next v5 h5), trivial⟩ (fun fn hfn => ⟨rfl, rfl, rfl⟩)
end Go.Proofs.Tryd.E
end

section
namespace Go.Proofs.Tryd.E
open Go Go.Eng
set_option maxRecDepth 100000
set_option linter.unusedVariables false
def f160 (k : Nat) (p0 : Int) (p1 : Int) : Option (Int) :=
  if (Int.tmod p0 400) = 0 then (
   if p1 = 2 then (
    some 29)
   else (
    (rd [31, 28, 31, 30, 31, 30, 31, 31, 30, 31, 30, 31] (IntKind.wrap .i64 (p1 - 1))).bind fun v1 =>
    some v1))
  else (
   if (Int.tmod p0 4) = 0 then (
    if p1 = 2 then (
     if (Int.tmod p0 100) = 0 then (
      (rd [31, 28, 31, 30, 31, 30, 31, 31, 30, 31, 30, 31] (IntKind.wrap .i64 (p1 - 1))).bind fun v1 =>
      some v1)
     else (
      some 29))
    else (
     (rd [31, 28, 31, 30, 31, 30, 31, 31, 30, 31, 30, 31] (IntKind.wrap .i64 (p1 - 1))).bind fun v1 =>
     some v1))
   else (
    if p1 = 2 then (
     (rd [31, 28, 31, 30, 31, 30, 31, 31, 30, 31, 30, 31] (IntKind.wrap .i64 (p1 - 1))).bind fun v1 =>
     some v1)
    else (
     (rd [31, 28, 31, 30, 31, 30, 31, 31, 30, 31, 30, 31] (IntKind.wrap .i64 (p1 - 1))).bind fun v1 =>
     some v1)))

theorem f160_ok (k : Nat) : ∀ (p0 : Int) (p1 : Int) (r : Int), f160 k p0 p1 = some r → Ct.Ok PX 160 ⟨[(.im (eI .i64 p0)), (.im (eI .i64 p1))], [], 0, (.im (eI .i64 r)), [], 0⟩ := by
  intro p0 p1 r h
  unfold f160 at h
  by_cases h1 : (Int.tmod p0 400) = 0
  · rw [if_pos h1] at h
    by_cases h2 : p1 = 2
    · rw [if_pos h2] at h
      replace h := Option.some.inj h; subst h
      exact Ct.ofWalk hT hm F160 (by kernel_rfl) (n := 1000) (ds := [.r [], .r [], .r [(4, ⟨(.h .gf), [], []⟩), (5, ⟨(.h .gf), [], []⟩), (6, ⟨(.h .gf), [], []⟩), (7, ⟨(.h .gf), [], []⟩), (11, ⟨(.h .gf), [], []⟩), (12, ⟨(.h (.gt .no)), [], []⟩)], .r [(3, ⟨(.h (.gt .no)), [], []⟩), (4, ⟨(.h (.gt .no)), [], []⟩)], .bc true, .r [], .k ⟨[], [], [], [], [], 0, [], []⟩])
        (r := (.fin (.im (eI .i64 29)) [] 0)) (obs := [((Int.tmod p0 400) == 0) = !false, ((Int.tmod p0 400) == 0) = !false, ((Int.tmod p0 400) == 0) = !false, ((Int.tmod p0 400) == 0) = !false, ((Int.tmod p0 400) == 0) = !false, ((Int.tmod p0 400) == 0) = true, (p1 == 2) = true, (p1 == 2) = true])
        (by kernel_rfl) ⟨(bt h1), (bt h1), (bt h1), (bt h1), (bt h1), (bt h1), (bt h2), (bt h2), trivial⟩ (fun fn hfn => ⟨rfl, rfl, rfl⟩)
    · rw [if_neg h2] at h
      obtain ⟨v1, h3, h⟩ := bnd h
      replace h := Option.some.inj h; subst h
      exact Ct.ofWalk hT hm F160 (by kernel_rfl) (n := 1000) (ds := [.r [], .r [], .r [(4, ⟨(.h .gf), [], []⟩), (5, ⟨(.h .gf), [], []⟩), (6, ⟨(.h .gf), [], []⟩), (7, ⟨(.h .gf), [], []⟩), (11, ⟨(.h .gf), [], []⟩), (12, ⟨(.h (.gt .no)), [], []⟩)], .r [(3, ⟨(.h .gf), [], []⟩), (4, ⟨(.h .gf), [], []⟩)], .bc false, .r [(3, ⟨(.h .no), [], []⟩), (4, ⟨(.h (.iv (eI .i64 v1))), [], []⟩)], .k ⟨[], [], [], [], [], 0, [], []⟩])
        (r := (.fin (.im (eI .i64 v1)) [] 0)) (obs := [((Int.tmod p0 400) == 0) = !false, ((Int.tmod p0 400) == 0) = !false, ((Int.tmod p0 400) == 0) = !false, ((Int.tmod p0 400) == 0) = !false, ((Int.tmod p0 400) == 0) = !false, ((Int.tmod p0 400) == 0) = true, (p1 == 2) = !true, (p1 == 2) = false, 0 ≤ (IntKind.wrap .i64 (p1 - 1)), ((IntKind.wrap .i64 (p1 - 1))).toNat < [(eI .i64 31), (eI .i64 28), (eI .i64 31), (eI .i64 30), (eI .i64 31), (eI .i64 30), (eI .i64 31), (eI .i64 31), (eI .i64 30), (eI .i64 31), (eI .i64 30), (eI .i64 31)].length, [(eI .i64 31), (eI .i64 28), (eI .i64 31), (eI .i64 30), (eI .i64 31), (eI .i64 30), (eI .i64 31), (eI .i64 31), (eI .i64 30), (eI .i64 31), (eI .i64 30), (eI .i64 31)][((IntKind.wrap .i64 (p1 - 1))).toNat]? = some (eI .i64 v1)])
        (by kernel_rfl) ⟨(bt h1), (bt h1), (bt h1), (bt h1), (bt h1), (bt h1), (bf h2), (bf h2), (rd_nn h3), (rd_ltm (eI .i64) h3), (rd_map (eI .i64) h3), trivial⟩ (fun fn hfn => ⟨rfl, rfl, rfl⟩)
  · rw [if_neg h1] at h
    by_cases h2 : (Int.tmod p0 4) = 0
    · rw [if_pos h2] at h
      by_cases h3 : p1 = 2
      · rw [if_pos h3] at h
        by_cases h4 : (Int.tmod p0 100) = 0
        · rw [if_pos h4] at h
          obtain ⟨v1, h5, h⟩ := bnd h
          replace h := Option.some.inj h; subst h
          exact Ct.ofWalk hT hm F160 (by kernel_rfl) (n := 1000) (ds := [.r [], .r [], .r [(4, ⟨(.h (.gt .no)), [], []⟩), (5, ⟨(.h (.gt .no)), [], []⟩), (6, ⟨(.h (.gt .no)), [], []⟩), (7, ⟨(.h (.gt .no)), [], []⟩), (8, ⟨(.h (.gt .no)), [], []⟩), (9, ⟨(.h (.gt .no)), [], []⟩), (10, ⟨(.h (.gt .no)), [], []⟩), (11, ⟨(.h (.gt (.gt .no))), [], []⟩), (12, ⟨(.h .gf), [], []⟩)], .r [(3, ⟨(.h (.gt .no)), [], []⟩), (4, ⟨(.h (.gt .no)), [], []⟩)], .b false, .r [(3, ⟨(.h .no), [], []⟩), (4, ⟨(.h (.iv (eI .i64 v1))), [], []⟩)], .k ⟨[], [], [], [], [], 0, [], []⟩])
            (r := (.fin (.im (eI .i64 v1)) [] 0)) (obs := [((Int.tmod p0 400) == 0) = false, ((Int.tmod p0 400) == 0) = false, (4 : Int) ≠ 0, ((Int.tmod p0 400) == 0) = false, ((Int.tmod p0 400) == 0) = false, ((Int.tmod p0 4) == 0) = true, ((Int.tmod p0 4) == 0) = true, (100 : Int) ≠ 0, ((Int.tmod p0 4) == 0) = true, ((Int.tmod p0 400) == 0) = false, ((Int.tmod p0 4) == 0) = true, ((Int.tmod p0 400) == 0) = false, (p1 == 2) = true, (p1 == 2) = true, ((Int.tmod p0 100) != 0) = false, 0 ≤ (IntKind.wrap .i64 (p1 - 1)), ((IntKind.wrap .i64 (p1 - 1))).toNat < [(eI .i64 31), (eI .i64 28), (eI .i64 31), (eI .i64 30), (eI .i64 31), (eI .i64 30), (eI .i64 31), (eI .i64 31), (eI .i64 30), (eI .i64 31), (eI .i64 30), (eI .i64 31)].length, [(eI .i64 31), (eI .i64 28), (eI .i64 31), (eI .i64 30), (eI .i64 31), (eI .i64 30), (eI .i64 31), (eI .i64 31), (eI .i64 30), (eI .i64 31), (eI .i64 30), (eI .i64 31)][((IntKind.wrap .i64 (p1 - 1))).toNat]? = some (eI .i64 v1)])
            (by kernel_rfl) ⟨(bf h1), (bf h1), (by decide), (bf h1), (bf h1), (bt h2), (bt h2), (by decide), (bt h2), (bf h1), (bt h2), (bf h1), (bt h3), (bt h3), (nf h4), (rd_nn h5), (rd_ltm (eI .i64) h5), (rd_map (eI .i64) h5), trivial⟩ (fun fn hfn => ⟨rfl, rfl, rfl⟩)
        · rw [if_neg h4] at h
          replace h := Option.some.inj h; subst h
          exact Ct.ofWalk hT hm F160 (by kernel_rfl) (n := 1000) (ds := [.r [], .r [], .r [(4, ⟨(.h (.gt .no)), [], []⟩), (5, ⟨(.h (.gt .no)), [], []⟩), (6, ⟨(.h (.gt .no)), [], []⟩), (7, ⟨(.h (.gt .no)), [], []⟩), (8, ⟨(.h (.gt .no)), [], []⟩), (9, ⟨(.h (.gt .no)), [], []⟩), (10, ⟨(.h (.gt .no)), [], []⟩), (11, ⟨(.h (.gt (.gt .no))), [], []⟩), (12, ⟨(.h .gf), [], []⟩)], .r [(3, ⟨(.h (.gt .no)), [], []⟩), (4, ⟨(.h (.gt .no)), [], []⟩)], .b true, .r [], .k ⟨[], [], [], [], [], 0, [], []⟩])
            (r := (.fin (.im (eI .i64 29)) [] 0)) (obs := [((Int.tmod p0 400) == 0) = false, ((Int.tmod p0 400) == 0) = false, (4 : Int) ≠ 0, ((Int.tmod p0 400) == 0) = false, ((Int.tmod p0 400) == 0) = false, ((Int.tmod p0 4) == 0) = true, ((Int.tmod p0 4) == 0) = true, (100 : Int) ≠ 0, ((Int.tmod p0 4) == 0) = true, ((Int.tmod p0 400) == 0) = false, ((Int.tmod p0 4) == 0) = true, ((Int.tmod p0 400) == 0) = false, (p1 == 2) = true, (p1 == 2) = true, ((Int.tmod p0 100) != 0) = true])
            (by kernel_rfl) ⟨(bf h1), (bf h1), (by decide), (bf h1), (bf h1), (bt h2), (bt h2), (by decide), (bt h2), (bf h1), (bt h2), (bf h1), (bt h3), (bt h3), (nt h4), trivial⟩ (fun fn hfn => ⟨rfl, rfl, rfl⟩)
      · rw [if_neg h3] at h
        obtain ⟨v1, h4, h⟩ := bnd h
        replace h := Option.some.inj h; subst h
        exact Ct.ofWalk hT hm F160 (by kernel_rfl) (n := 1000) (ds := [.r [], .r [], .r [(4, ⟨(.h (.gt .no)), [], []⟩), (5, ⟨(.h (.gt .no)), [], []⟩), (6, ⟨(.h (.gt .no)), [], []⟩), (7, ⟨(.h (.gt .no)), [], []⟩), (8, ⟨(.h (.gt .no)), [], []⟩), (9, ⟨(.h (.gt .no)), [], []⟩), (10, ⟨(.h (.gt .no)), [], []⟩), (11, ⟨(.h (.gt (.gt .no))), [], []⟩), (12, ⟨(.h .gf), [], []⟩)], .r [(3, ⟨(.h .gf), [], []⟩), (4, ⟨(.h .gf), [], []⟩)], .bc false, .r [(3, ⟨(.h .no), [], []⟩), (4, ⟨(.h (.iv (eI .i64 v1))), [], []⟩)], .k ⟨[], [], [], [], [], 0, [], []⟩])
          (r := (.fin (.im (eI .i64 v1)) [] 0)) (obs := [((Int.tmod p0 400) == 0) = false, ((Int.tmod p0 400) == 0) = false, (4 : Int) ≠ 0, ((Int.tmod p0 400) == 0) = false, ((Int.tmod p0 400) == 0) = false, ((Int.tmod p0 4) == 0) = true, ((Int.tmod p0 4) == 0) = true, (100 : Int) ≠ 0, ((Int.tmod p0 4) == 0) = true, ((Int.tmod p0 400) == 0) = false, ((Int.tmod p0 4) == 0) = true, ((Int.tmod p0 400) == 0) = false, (p1 == 2) = !true, (p1 == 2) = false, 0 ≤ (IntKind.wrap .i64 (p1 - 1)), ((IntKind.wrap .i64 (p1 - 1))).toNat < [(eI .i64 31), (eI .i64 28), (eI .i64 31), (eI .i64 30), (eI .i64 31), (eI .i64 30), (eI .i64 31), (eI .i64 31), (eI .i64 30), (eI .i64 31), (eI .i64 30), (eI .i64 31)].length, [(eI .i64 31), (eI .i64 28), (eI .i64 31), (eI .i64 30), (eI .i64 31), (eI .i64 30), (eI .i64 31), (eI .i64 31), (eI .i64 30), (eI .i64 31), (eI .i64 30), (eI .i64 31)][((IntKind.wrap .i64 (p1 - 1))).toNat]? = some (eI .i64 v1)])
          (by kernel_rfl) ⟨(bf h1), (bf h1), (by decide), (bf h1), (bf h1), (bt h2), (bt h2), (by decide), (bt h2), (bf h1), (bt h2), (bf h1), (bf h3), (bf h3), (rd_nn h4), (rd_ltm (eI .i64) h4), (rd_map (eI .i64) h4), trivial⟩ (fun fn hfn => ⟨rfl, rfl, rfl⟩)
    · rw [if_neg h2] at h
      by_cases h3 : p1 = 2
      · rw [if_pos h3] at h
        obtain ⟨v1, h4, h⟩ := bnd h
        replace h := Option.some.inj h; subst h
        exact Ct.ofWalk hT hm F160 (by kernel_rfl) (n := 1000) (ds := [.r [], .r [], .r [(4, ⟨(.h (.gt .no)), [], []⟩), (5, ⟨(.h (.gt .no)), [], []⟩), (6, ⟨(.h (.gt .no)), [], []⟩), (7, ⟨(.h (.gt .no)), [], []⟩), (8, ⟨(.h .gf), [], []⟩), (9, ⟨(.h .gf), [], []⟩), (10, ⟨(.h .gf), [], []⟩), (11, ⟨(.h (.gt .gf)), [], []⟩), (12, ⟨(.h .gf), [], []⟩)], .r [(3, ⟨(.h (.gt .no)), [], []⟩), (4, ⟨(.h (.gt .no)), [], []⟩)], .bc false, .r [(3, ⟨(.h .no), [], []⟩), (4, ⟨(.h (.iv (eI .i64 v1))), [], []⟩)], .k ⟨[], [], [], [], [], 0, [], []⟩])
          (r := (.fin (.im (eI .i64 v1)) [] 0)) (obs := [((Int.tmod p0 400) == 0) = false, ((Int.tmod p0 400) == 0) = false, (4 : Int) ≠ 0, ((Int.tmod p0 400) == 0) = false, ((Int.tmod p0 400) == 0) = false, ((Int.tmod p0 4) == 0) = !true, ((Int.tmod p0 4) == 0) = !true, ((Int.tmod p0 4) == 0) = !true, ((Int.tmod p0 400) == 0) = false, ((Int.tmod p0 4) == 0) = false, ((Int.tmod p0 400) == 0) = false, (p1 == 2) = true, (p1 == 2) = true, 0 ≤ (IntKind.wrap .i64 (p1 - 1)), ((IntKind.wrap .i64 (p1 - 1))).toNat < [(eI .i64 31), (eI .i64 28), (eI .i64 31), (eI .i64 30), (eI .i64 31), (eI .i64 30), (eI .i64 31), (eI .i64 31), (eI .i64 30), (eI .i64 31), (eI .i64 30), (eI .i64 31)].length, [(eI .i64 31), (eI .i64 28), (eI .i64 31), (eI .i64 30), (eI .i64 31), (eI .i64 30), (eI .i64 31), (eI .i64 31), (eI .i64 30), (eI .i64 31), (eI .i64 30), (eI .i64 31)][((IntKind.wrap .i64 (p1 - 1))).toNat]? = some (eI .i64 v1)])
          (by kernel_rfl) ⟨(bf h1), (bf h1), (by decide), (bf h1), (bf h1), (bf h2), (bf h2), (bf h2), (bf h1), (bf h2), (bf h1), (bt h3), (bt h3), (rd_nn h4), (rd_ltm (eI .i64) h4), (rd_map (eI .i64) h4), trivial⟩ (fun fn hfn => ⟨rfl, rfl, rfl⟩)
      · rw [if_neg h3] at h
        obtain ⟨v1, h4, h⟩ := bnd h
        replace h := Option.some.inj h; subst h
        exact Ct.ofWalk hT hm F160 (by kernel_rfl) (n := 1000) (ds := [.r [], .r [], .r [(4, ⟨(.h (.gt .no)), [], []⟩), (5, ⟨(.h (.gt .no)), [], []⟩), (6, ⟨(.h (.gt .no)), [], []⟩), (7, ⟨(.h (.gt .no)), [], []⟩), (8, ⟨(.h .gf), [], []⟩), (9, ⟨(.h .gf), [], []⟩), (10, ⟨(.h .gf), [], []⟩), (11, ⟨(.h (.gt .gf)), [], []⟩), (12, ⟨(.h .gf), [], []⟩)], .r [(3, ⟨(.h .gf), [], []⟩), (4, ⟨(.h .gf), [], []⟩)], .bc false, .r [(3, ⟨(.h .no), [], []⟩), (4, ⟨(.h (.iv (eI .i64 v1))), [], []⟩)], .k ⟨[], [], [], [], [], 0, [], []⟩])
          (r := (.fin (.im (eI .i64 v1)) [] 0)) (obs := [((Int.tmod p0 400) == 0) = false, ((Int.tmod p0 400) == 0) = false, (4 : Int) ≠ 0, ((Int.tmod p0 400) == 0) = false, ((Int.tmod p0 400) == 0) = false, ((Int.tmod p0 4) == 0) = !true, ((Int.tmod p0 4) == 0) = !true, ((Int.tmod p0 4) == 0) = !true, ((Int.tmod p0 400) == 0) = false, ((Int.tmod p0 4) == 0) = false, ((Int.tmod p0 400) == 0) = false, (p1 == 2) = !true, (p1 == 2) = false, 0 ≤ (IntKind.wrap .i64 (p1 - 1)), ((IntKind.wrap .i64 (p1 - 1))).toNat < [(eI .i64 31), (eI .i64 28), (eI .i64 31), (eI .i64 30), (eI .i64 31), (eI .i64 30), (eI .i64 31), (eI .i64 31), (eI .i64 30), (eI .i64 31), (eI .i64 30), (eI .i64 31)].length, [(eI .i64 31), (eI .i64 28), (eI .i64 31), (eI .i64 30), (eI .i64 31), (eI .i64 30), (eI .i64 31), (eI .i64 31), (eI .i64 30), (eI .i64 31), (eI .i64 30), (eI .i64 31)][((IntKind.wrap .i64 (p1 - 1))).toNat]? = some (eI .i64 v1)])
          (by kernel_rfl) ⟨(bf h1), (bf h1), (by decide), (bf h1), (bf h1), (bf h2), (bf h2), (bf h2), (bf h1), (bf h2), (bf h1), (bf h3), (bf h3), (rd_nn h4), (rd_ltm (eI .i64) h4), (rd_map (eI .i64) h4), trivial⟩ (fun fn hfn => ⟨rfl, rfl, rfl⟩)
end Go.Proofs.Tryd.E
end

section
namespace Go.Proofs.Tryd.E
open Go Go.Eng
set_option maxRecDepth 100000
set_option linter.unusedVariables false
def f128L2_S (p0 : Int) (p1 : Int) (p2 : Int) (x3 : Int) (x4 : Int) : S := ⟨[(0, (.im (eI .i64 p0))), (1, (.im (eI .i64 p1))), (2, (.im (eI .i64 p2))), (7, (.im (eI .i64 x3))), (10, (.im (eI .i64 x4)))], [], 0⟩

def f128L2 : Nat → Int → Int → Int → Int → Int → Option (Int)
  | 0, _, _, _, _, _ => none
  | k + 1, p0, p1, p2, x3, x4 =>
    if x4 < p1 then (
     (f160 k p0 x4).bind fun v1 =>
     f128L2 k p0 p1 p2 (IntKind.wrap .i64 (x3 + v1)) (IntKind.wrap .i64 (x4 + 1)))
    else (
     some (IntKind.wrap .i64 ((IntKind.wrap .i64 ((IntKind.wrap .i64 (x3 + p2)) - 1)) * 86400)))

def f128L2_P (k : Nat) : Prop := ∀ (fn : Func) (_ : fn.results = ([.t 6].map Rv.var).toArray), ∀ (p0 : Int) (p1 : Int) (p2 : Int) (x3 : Int) (x4 : Int) (r : Int), f128L2 k p0 p1 p2 x3 x4 = some r → LH PX ⟨fn, 46, 0, (.im (eI .i64 r)), [], 0⟩ cc128_4 [.blk 4, .seq cc128_5] (f128L2_S p0 p1 p2 x3 x4)

theorem f128L2_step (k : Nat) (ih_f128L2 : f128L2_P k) : f128L2_P (k + 1) := by
  intro fn hfn p0 p1 p2 x3 x4 r h
  rw [f128L2] at h
  by_cases h1 : x4 < p1
  · rw [if_pos h1] at h
    obtain ⟨v1, h2, h⟩ := bnd h
    exact LH.round hT hm hfn (n := 1000) (ds := [.r [], .b true, .r [(3, ⟨(.c false [] ⟨[], [], [], 0, (.im (eI .i64 v1)), [], 0, [], 0⟩), [], []⟩)], .r [], .k ⟨[], [], [], [0, 1, 2, 7, 10], [], 0, [], []⟩])
      (r := (.head cc128_4 [.blk 4, .seq cc128_5] (f128L2_S p0 p1 p2 (IntKind.wrap .i64 (x3 + v1)) (IntKind.wrap .i64 (x4 + 1))))) (obs := [(decide (x4 < p1)) = true, Ct.Ok PX 160 ⟨[(.im (eI .i64 p0)), (.im (eI .i64 x4))], [], 0, (.im (eI .i64 v1)), [], 0⟩])
      (by kernel_rfl) ⟨(dt h1), (f160_ok k p0 x4 v1 h2), trivial⟩ (ih_f128L2 fn hfn p0 p1 p2 (IntKind.wrap .i64 (x3 + v1)) (IntKind.wrap .i64 (x4 + 1)) _ h)
  · rw [if_neg h1] at h
    replace h := Option.some.inj h; subst h
    exact LH.round hT hm hfn (n := 1000) (ds := [.r [], .b false, .r [], .k ⟨[], [], [], [], [], 0, [], []⟩])
      (r := (.fin (.im (eI .i64 (IntKind.wrap .i64 ((IntKind.wrap .i64 ((IntKind.wrap .i64 (x3 + p2)) - 1)) * 86400)))) [] 0)) (obs := [(decide (x4 < p1)) = false])
      (by kernel_rfl) ⟨(df h1), trivial⟩ ⟨rfl, rfl, rfl⟩

theorem f128L2_all : ∀ k, f128L2_P k
  | 0 => (by intro fn hfn _ _ _ _ _ r h; rw [f128L2] at h; cases h)
  | k + 1 => f128L2_step k (f128L2_all k)

theorem f128L2_ok (fn : Func) (hfn : fn.results = ([.t 6].map Rv.var).toArray) (k : Nat) : ∀ (p0 : Int) (p1 : Int) (p2 : Int) (x3 : Int) (x4 : Int) (r : Int), f128L2 k p0 p1 p2 x3 x4 = some r → LH PX ⟨fn, 46, 0, (.im (eI .i64 r)), [], 0⟩ cc128_4 [.blk 4, .seq cc128_5] (f128L2_S p0 p1 p2 x3 x4) := (f128L2_all k) fn hfn

def f128L1_S (p0 : Int) (p1 : Int) (p2 : Int) (x3 : Int) (x4 : Int) : S := ⟨[(0, (.im (eI .i64 p0))), (1, (.im (eI .i64 p1))), (2, (.im (eI .i64 p2))), (7, (.im (eI .i64 x3))), (9, (.im (eI .i64 x4)))], [], 0⟩

def f128L1 : Nat → Int → Int → Int → Int → Int → Option (Int)
  | 0, _, _, _, _, _ => none
  | k + 1, p0, p1, p2, x3, x4 =>
    if x4 < 1970 then (
     (f160 k x4 2).bind fun v1 =>
     f128L1 k p0 p1 p2 (IntKind.wrap .i64 ((IntKind.wrap .i64 (x3 - 337)) - v1)) (IntKind.wrap .i64 (x4 + 1)))
    else (
     f128L2 k p0 p1 p2 x3 1)

def f128L1_P (k : Nat) : Prop := ∀ (fn : Func) (_ : fn.results = ([.t 6].map Rv.var).toArray), ∀ (p0 : Int) (p1 : Int) (p2 : Int) (x3 : Int) (x4 : Int) (r : Int), f128L1 k p0 p1 p2 x3 x4 = some r → LH PX ⟨fn, 46, 0, (.im (eI .i64 r)), [], 0⟩ cc128_2 [.blk 2, .seq cc128_3] (f128L1_S p0 p1 p2 x3 x4)

theorem f128L1_step (k : Nat) (ih_f128L1 : f128L1_P k) : f128L1_P (k + 1) := by
  intro fn hfn p0 p1 p2 x3 x4 r h
  rw [f128L1] at h
  by_cases h1 : x4 < 1970
  · rw [if_pos h1] at h
    obtain ⟨v1, h2, h⟩ := bnd h
    exact LH.round hT hm hfn (n := 1000) (ds := [.r [], .b true, .r [(3, ⟨(.c false [] ⟨[], [], [], 0, (.im (eI .i64 v1)), [], 0, [], 0⟩), [], []⟩)], .r [], .k ⟨[], [], [], [0, 1, 2, 7, 9], [], 0, [], []⟩])
      (r := (.head cc128_2 [.blk 2, .seq cc128_3] (f128L1_S p0 p1 p2 (IntKind.wrap .i64 ((IntKind.wrap .i64 (x3 - 337)) - v1)) (IntKind.wrap .i64 (x4 + 1))))) (obs := [(decide (x4 < 1970)) = true, Ct.Ok PX 160 ⟨[(.im (eI .i64 x4)), (.im (eI .i64 2))], [], 0, (.im (eI .i64 v1)), [], 0⟩])
      (by kernel_rfl) ⟨(dt h1), (f160_ok k x4 2 v1 h2), trivial⟩ (ih_f128L1 fn hfn p0 p1 p2 (IntKind.wrap .i64 ((IntKind.wrap .i64 (x3 - 337)) - v1)) (IntKind.wrap .i64 (x4 + 1)) _ h)
  · rw [if_neg h1] at h
    exact LH.round hT hm hfn (n := 1000) (ds := [.r [], .b false, .r [], .k ⟨[], [], [], [0, 1, 2, 7, 10], [], 0, [], []⟩])
      (r := (.head cc128_4 [.blk 4, .seq cc128_5] (f128L2_S p0 p1 p2 x3 1))) (obs := [(decide (x4 < 1970)) = false])
      (by kernel_rfl) ⟨(df h1), trivial⟩ (f128L2_ok fn hfn k p0 p1 p2 x3 1 _ h)

theorem f128L1_all : ∀ k, f128L1_P k
  | 0 => (by intro fn hfn _ _ _ _ _ r h; rw [f128L1] at h; cases h)
  | k + 1 => f128L1_step k (f128L1_all k)

theorem f128L1_ok (fn : Func) (hfn : fn.results = ([.t 6].map Rv.var).toArray) (k : Nat) : ∀ (p0 : Int) (p1 : Int) (p2 : Int) (x3 : Int) (x4 : Int) (r : Int), f128L1 k p0 p1 p2 x3 x4 = some r → LH PX ⟨fn, 46, 0, (.im (eI .i64 r)), [], 0⟩ cc128_2 [.blk 2, .seq cc128_3] (f128L1_S p0 p1 p2 x3 x4) := (f128L1_all k) fn hfn

def f128L0_S (p0 : Int) (p1 : Int) (p2 : Int) (x3 : Int) (x4 : Int) : S := ⟨[(0, (.im (eI .i64 p0))), (1, (.im (eI .i64 p1))), (2, (.im (eI .i64 p2))), (7, (.im (eI .i64 x3))), (8, (.im (eI .i64 x4)))], [], 0⟩

def f128L0 : Nat → Int → Int → Int → Int → Int → Option (Int)
  | 0, _, _, _, _, _ => none
  | k + 1, p0, p1, p2, x3, x4 =>
    if x4 < p0 then (
     (f160 k x4 2).bind fun v1 =>
     f128L0 k p0 p1 p2 (IntKind.wrap .i64 ((IntKind.wrap .i64 (x3 + 337)) + v1)) (IntKind.wrap .i64 (x4 + 1)))
    else (
     f128L1 k p0 p1 p2 x3 p0)

def f128L0_P (k : Nat) : Prop := ∀ (fn : Func) (_ : fn.results = ([.t 6].map Rv.var).toArray), ∀ (p0 : Int) (p1 : Int) (p2 : Int) (x3 : Int) (x4 : Int) (r : Int), f128L0 k p0 p1 p2 x3 x4 = some r → LH PX ⟨fn, 46, 0, (.im (eI .i64 r)), [], 0⟩ cc128_0 [.blk 0, .seq cc128_1] (f128L0_S p0 p1 p2 x3 x4)

theorem f128L0_step (k : Nat) (ih_f128L0 : f128L0_P k) : f128L0_P (k + 1) := by
  intro fn hfn p0 p1 p2 x3 x4 r h
  rw [f128L0] at h
  by_cases h1 : x4 < p0
  · rw [if_pos h1] at h
    obtain ⟨v1, h2, h⟩ := bnd h
    exact LH.round hT hm hfn (n := 1000) (ds := [.r [], .b true, .r [(3, ⟨(.c false [] ⟨[], [], [], 0, (.im (eI .i64 v1)), [], 0, [], 0⟩), [], []⟩)], .r [], .k ⟨[], [], [], [0, 1, 2, 7, 8], [], 0, [], []⟩])
      (r := (.head cc128_0 [.blk 0, .seq cc128_1] (f128L0_S p0 p1 p2 (IntKind.wrap .i64 ((IntKind.wrap .i64 (x3 + 337)) + v1)) (IntKind.wrap .i64 (x4 + 1))))) (obs := [(decide (x4 < p0)) = true, Ct.Ok PX 160 ⟨[(.im (eI .i64 x4)), (.im (eI .i64 2))], [], 0, (.im (eI .i64 v1)), [], 0⟩])
      (by kernel_rfl) ⟨(dt h1), (f160_ok k x4 2 v1 h2), trivial⟩ (ih_f128L0 fn hfn p0 p1 p2 (IntKind.wrap .i64 ((IntKind.wrap .i64 (x3 + 337)) + v1)) (IntKind.wrap .i64 (x4 + 1)) _ h)
  · rw [if_neg h1] at h
    exact LH.round hT hm hfn (n := 1000) (ds := [.r [], .b false, .r [], .k ⟨[], [], [], [0, 1, 2, 7, 9], [], 0, [], []⟩])
      (r := (.head cc128_2 [.blk 2, .seq cc128_3] (f128L1_S p0 p1 p2 x3 p0))) (obs := [(decide (x4 < p0)) = false])
      (by kernel_rfl) ⟨(df h1), trivial⟩ (f128L1_ok fn hfn k p0 p1 p2 x3 p0 _ h)

theorem f128L0_all : ∀ k, f128L0_P k
  | 0 => (by intro fn hfn _ _ _ _ _ r h; rw [f128L0] at h; cases h)
  | k + 1 => f128L0_step k (f128L0_all k)

theorem f128L0_ok (fn : Func) (hfn : fn.results = ([.t 6].map Rv.var).toArray) (k : Nat) : ∀ (p0 : Int) (p1 : Int) (p2 : Int) (x3 : Int) (x4 : Int) (r : Int), f128L0 k p0 p1 p2 x3 x4 = some r → LH PX ⟨fn, 46, 0, (.im (eI .i64 r)), [], 0⟩ cc128_0 [.blk 0, .seq cc128_1] (f128L0_S p0 p1 p2 x3 x4) := (f128L0_all k) fn hfn

def f128 (k : Nat) (p0 : Int) (p1 : Int) (p2 : Int) : Option (Int) :=
  f128L0 k p0 p1 p2 0 1970

theorem f128_ok (k : Nat) : ∀ (p0 : Int) (p1 : Int) (p2 : Int) (r : Int), f128 k p0 p1 p2 = some r → Ct.Ok PX 128 ⟨[(.im (eI .i64 p0)), (.im (eI .i64 p1)), (.im (eI .i64 p2))], [], 0, (.im (eI .i64 r)), [], 0⟩ := by
  intro p0 p1 p2 r h
  unfold f128 at h
  exact Ct.ofWalk hT hm F128 (by kernel_rfl) (n := 1000) (ds := [.r [], .r [], .r [], .k ⟨[], [], [], [0, 1, 2, 7, 8], [], 0, [], []⟩])
    (r := (.head cc128_0 [.blk 0, .seq cc128_1] (f128L0_S p0 p1 p2 0 1970))) (obs := [])
    (by kernel_rfl) trivial (fun fn hfn => f128L0_ok fn hfn k p0 p1 p2 0 1970 _ h)

def f129 (k : Nat) (p0 : Int) : Option ((List Int)) :=
  some [(IntKind.wrap .u8 (IntKind.wrap .i64 (48 + (IntKind.wrap .i64 (Int.tdiv p0 10))))), (IntKind.wrap .u8 (IntKind.wrap .i64 (48 + (Int.tmod p0 10))))]

theorem f129_ok (k : Nat) : ∀ (p0 : Int) (r : (List Int)), f129 k p0 = some r → Ct.Ok PX 129 ⟨[(.im (eI .i64 p0))], [], 0, (.im (.sl 1 (r.map (eI .u8)))), [], 0⟩ := by
  intro p0 r h
  unfold f129 at h
  replace h := Option.some.inj h; subst h
  exact Ct.ofWalk hT hm F129 (by kernel_rfl) (n := 1000) (ds := [.r [], .r [], .k ⟨[], [], [0], [], [], 0, [], []⟩])
    (r := (.fin (.im (.sl 1 [(eI .u8 (IntKind.wrap .u8 (IntKind.wrap .i64 (48 + (IntKind.wrap .i64 (Int.tdiv p0 10)))))), (eI .u8 (IntKind.wrap .u8 (IntKind.wrap .i64 (48 + (Int.tmod p0 10)))))])) [] 0)) (obs := [])
    (by kernel_rfl) trivial (fun fn hfn => ⟨rfl, rfl, rfl⟩)
end Go.Proofs.Tryd.E
end

section
namespace Go.Proofs.Tryd.E
open Go Go.Eng
set_option maxRecDepth 100000
set_option linter.unusedVariables false
def f82L1_S (p0 : Int) (x1 : Int) (x2 : Int) : S := ⟨[(0, (.im (eI .i64 p0))), (5, (.im (eI .i64 x1))), (6, (.im (eI .i64 x2)))], [], 0⟩

def f82L1 : Nat → Int → Int → Int → Option (Int × (List Int) × Int)
  | 0, _, _, _ => none
  | k + 1, p0, x1, x2 =>
    if x2 < 12 then (
     (f128 k x1 (IntKind.wrap .i64 (x2 + 1)) 1).bind fun v1 =>
     if v1 ≤ p0 then (
      f82L1 k p0 x1 (IntKind.wrap .i64 (x2 + 1)))
     else (
      (f128 k x1 x2 1).bind fun v2 =>
      if x1 > 2049 then (
       (f129 k (IntKind.wrap .i64 (Int.tdiv x1 100))).bind fun v3 =>
       (ap 1 [] v3).bind fun v4 =>
       (f129 k (Int.tmod x1 100)).bind fun v5 =>
       (ap 1 v4 v5).bind fun v6 =>
       (f129 k x2).bind fun v7 =>
       (ap 1 v6 v7).bind fun v8 =>
       (f129 k (IntKind.wrap .i64 (1 + (IntKind.wrap .i64 (Int.tdiv (IntKind.wrap .i64 (p0 - v2)) 86400))))).bind fun v9 =>
       (ap 1 v8 v9).bind fun v10 =>
       (f129 k (Int.tmod (IntKind.wrap .i64 (Int.tdiv (IntKind.wrap .i64 (p0 - v2)) 3600)) 24)).bind fun v11 =>
       (ap 1 v10 v11).bind fun v12 =>
       (f129 k (Int.tmod (IntKind.wrap .i64 (Int.tdiv (IntKind.wrap .i64 (p0 - v2)) 60)) 60)).bind fun v13 =>
       (ap 1 v12 v13).bind fun v14 =>
       (f129 k (Int.tmod (IntKind.wrap .i64 (p0 - v2)) 60)).bind fun v15 =>
       (ap 1 v14 v15).bind fun v16 =>
       (ap 1 v16 [90]).bind fun v17 =>
       some (24, v17, 0))
      else (
       (f129 k (Int.tmod x1 100)).bind fun v3 =>
       (ap 1 [] v3).bind fun v4 =>
       (f129 k x2).bind fun v5 =>
       (ap 1 v4 v5).bind fun v6 =>
       (f129 k (IntKind.wrap .i64 (1 + (IntKind.wrap .i64 (Int.tdiv (IntKind.wrap .i64 (p0 - v2)) 86400))))).bind fun v7 =>
       (ap 1 v6 v7).bind fun v8 =>
       (f129 k (Int.tmod (IntKind.wrap .i64 (Int.tdiv (IntKind.wrap .i64 (p0 - v2)) 3600)) 24)).bind fun v9 =>
       (ap 1 v8 v9).bind fun v10 =>
       (f129 k (Int.tmod (IntKind.wrap .i64 (Int.tdiv (IntKind.wrap .i64 (p0 - v2)) 60)) 60)).bind fun v11 =>
       (ap 1 v10 v11).bind fun v12 =>
       (f129 k (Int.tmod (IntKind.wrap .i64 (p0 - v2)) 60)).bind fun v13 =>
       (ap 1 v12 v13).bind fun v14 =>
       (ap 1 v14 [90]).bind fun v15 =>
       some (23, v15, 0))))
    else (
     (f128 k x1 x2 1).bind fun v1 =>
     if x1 > 2049 then (
      (f129 k (IntKind.wrap .i64 (Int.tdiv x1 100))).bind fun v2 =>
      (ap 1 [] v2).bind fun v3 =>
      (f129 k (Int.tmod x1 100)).bind fun v4 =>
      (ap 1 v3 v4).bind fun v5 =>
      (f129 k x2).bind fun v6 =>
      (ap 1 v5 v6).bind fun v7 =>
      (f129 k (IntKind.wrap .i64 (1 + (IntKind.wrap .i64 (Int.tdiv (IntKind.wrap .i64 (p0 - v1)) 86400))))).bind fun v8 =>
      (ap 1 v7 v8).bind fun v9 =>
      (f129 k (Int.tmod (IntKind.wrap .i64 (Int.tdiv (IntKind.wrap .i64 (p0 - v1)) 3600)) 24)).bind fun v10 =>
      (ap 1 v9 v10).bind fun v11 =>
      (f129 k (Int.tmod (IntKind.wrap .i64 (Int.tdiv (IntKind.wrap .i64 (p0 - v1)) 60)) 60)).bind fun v12 =>
      (ap 1 v11 v12).bind fun v13 =>
      (f129 k (Int.tmod (IntKind.wrap .i64 (p0 - v1)) 60)).bind fun v14 =>
      (ap 1 v13 v14).bind fun v15 =>
      (ap 1 v15 [90]).bind fun v16 =>
      some (24, v16, 0))
     else (
      (f129 k (Int.tmod x1 100)).bind fun v2 =>
      (ap 1 [] v2).bind fun v3 =>
      (f129 k x2).bind fun v4 =>
      (ap 1 v3 v4).bind fun v5 =>
      (f129 k (IntKind.wrap .i64 (1 + (IntKind.wrap .i64 (Int.tdiv (IntKind.wrap .i64 (p0 - v1)) 86400))))).bind fun v6 =>
      (ap 1 v5 v6).bind fun v7 =>
      (f129 k (Int.tmod (IntKind.wrap .i64 (Int.tdiv (IntKind.wrap .i64 (p0 - v1)) 3600)) 24)).bind fun v8 =>
      (ap 1 v7 v8).bind fun v9 =>
      (f129 k (Int.tmod (IntKind.wrap .i64 (Int.tdiv (IntKind.wrap .i64 (p0 - v1)) 60)) 60)).bind fun v10 =>
      (ap 1 v9 v10).bind fun v11 =>
      (f129 k (Int.tmod (IntKind.wrap .i64 (p0 - v1)) 60)).bind fun v12 =>
      (ap 1 v11 v12).bind fun v13 =>
      (ap 1 v13 [90]).bind fun v14 =>
      some (23, v14, 0)))

def f82L1_P (k : Nat) : Prop := ∀ (fn : Func) (_ : fn.results = ([.t 2, .t 3, .t 4].map Rv.var).toArray), ∀ (p0 : Int) (x1 : Int) (x2 : Int) (r : Int × (List Int) × Int), f82L1 k p0 x1 x2 = some r → LH PX ⟨fn, 86, 0, (.tup [(.im (eI .i64 r.1)), (.im (.sl 1 (r.2.1.map (eI .u8)))), (.im (eI .i64 r.2.2))]), [], 0⟩ cc82_2 [.blk 2, .seq cc82_3] (f82L1_S p0 x1 x2)

theorem f82L1_step (k : Nat) (ih_f82L1 : f82L1_P k) : f82L1_P (k + 1) := by
  intro fn hfn p0 x1 x2 r h
  rw [f82L1] at h
  by_cases h1 : x2 < 12
  · rw [if_pos h1] at h
    obtain ⟨v1, h2, h⟩ := bnd h
    by_cases h3 : v1 ≤ p0
    · rw [if_pos h3] at h
      exact LH.round hT hm hfn (n := 1000) (ds := [.r [(3, ⟨(.h (.gt .no)), [], []⟩), (4, ⟨(.h (.gt .no)), [], []⟩), (5, ⟨(.h (.gt .no)), [], []⟩), (6, ⟨(.c true [] ⟨[], [], [], 0, (.im (eI .i64 v1)), [], 0, [], 0⟩), [], []⟩), (7, ⟨(.h (.gt .no)), [], []⟩), (8, ⟨(.h (.gt .no)), [], []⟩), (9, ⟨(.h (.gt .no)), [], []⟩)], .b true, .r [], .k ⟨[], [], [], [0, 5, 6], [], 0, [], []⟩])
        (r := (.head cc82_2 [.blk 2, .seq cc82_3] (f82L1_S p0 x1 (IntKind.wrap .i64 (x2 + 1))))) (obs := [(decide (x2 < 12)) = true, (decide (x2 < 12)) = true, (decide (x2 < 12)) = true, (decide (x2 < 12)) = true, Ct.Ok PX 128 ⟨[(.im (eI .i64 x1)), (.im (eI .i64 (IntKind.wrap .i64 (x2 + 1)))), (.im (eI .i64 1))], [], 0, (.im (eI .i64 v1)), [], 0⟩, (decide (x2 < 12)) = true, (decide (x2 < 12)) = true, (decide (x2 < 12)) = true, (decide (v1 ≤ p0)) = true])
        (by kernel_rfl) ⟨(dt h1), (dt h1), (dt h1), (dt h1), (f128_ok k x1 (IntKind.wrap .i64 (x2 + 1)) 1 v1 h2), (dt h1), (dt h1), (dt h1), (dt h3), trivial⟩ (ih_f82L1 fn hfn p0 x1 (IntKind.wrap .i64 (x2 + 1)) _ h)
    · rw [if_neg h3] at h
      obtain ⟨v2, h4, h⟩ := bnd h
      by_cases h5 : x1 > 2049
      · rw [if_pos h5] at h
        obtain ⟨v3, h6, h⟩ := bnd h
        obtain ⟨v4, h7, h⟩ := bnd h
        obtain ⟨v5, h8, h⟩ := bnd h
        obtain ⟨v6, h9, h⟩ := bnd h
        obtain ⟨v7, h10, h⟩ := bnd h
        obtain ⟨v8, h11, h⟩ := bnd h
        obtain ⟨v9, h12, h⟩ := bnd h
        obtain ⟨v10, h13, h⟩ := bnd h
        obtain ⟨v11, h14, h⟩ := bnd h
        obtain ⟨v12, h15, h⟩ := bnd h
        obtain ⟨v13, h16, h⟩ := bnd h
        obtain ⟨v14, h17, h⟩ := bnd h
        obtain ⟨v15, h18, h⟩ := bnd h
        obtain ⟨v16, h19, h⟩ := bnd h
        obtain ⟨v17, h20, h⟩ := bnd h
        replace h := Option.some.inj h; subst h
        exact LH.round hT hm hfn (n := 1000) (ds := [.r [(3, ⟨(.h (.gt .no)), [], []⟩), (4, ⟨(.h (.gt .no)), [], []⟩), (5, ⟨(.h (.gt .no)), [], []⟩), (6, ⟨(.c true [] ⟨[], [], [], 0, (.im (eI .i64 v1)), [], 0, [], 0⟩), [], []⟩), (7, ⟨(.h (.gt .no)), [], []⟩), (8, ⟨(.h (.gt .no)), [], []⟩), (9, ⟨(.h (.gt .no)), [], []⟩)], .b false, .r [(3, ⟨(.c false [] ⟨[], [], [], 0, (.im (eI .i64 v2)), [], 0, [], 0⟩), [], []⟩)], .r [], .r [], .r [], .b true, .r [], .r [(3, ⟨(.c false [] ⟨[], [], [], 0, (.im (.sl 1 (v3.map (eI .u8)))), [], 0, [], 0⟩), [], []⟩), (4, ⟨(.h (.ivs (v4.map (eI .u8)))), [], []⟩)], .r [(3, ⟨(.c false [] ⟨[], [], [], 0, (.im (.sl 1 (v5.map (eI .u8)))), [], 0, [], 2⟩), [], []⟩), (4, ⟨(.h (.ivs (v6.map (eI .u8)))), [], []⟩)], .r [(2, ⟨(.c false [] ⟨[], [], [], 0, (.im (.sl 1 (v7.map (eI .u8)))), [], 0, [], 3⟩), [], []⟩), (3, ⟨(.h (.ivs (v8.map (eI .u8)))), [], []⟩)], .r [(4, ⟨(.c false [] ⟨[], [], [], 0, (.im (.sl 1 (v9.map (eI .u8)))), [], 0, [], 4⟩), [], []⟩), (5, ⟨(.h (.ivs (v10.map (eI .u8)))), [], []⟩)], .r [(4, ⟨(.c false [] ⟨[], [], [], 0, (.im (.sl 1 (v11.map (eI .u8)))), [], 0, [], 5⟩), [], []⟩), (5, ⟨(.h (.ivs (v12.map (eI .u8)))), [], []⟩)], .r [(4, ⟨(.c false [] ⟨[], [], [], 0, (.im (.sl 1 (v13.map (eI .u8)))), [], 0, [], 6⟩), [], []⟩), (5, ⟨(.h (.ivs (v14.map (eI .u8)))), [], []⟩)], .r [(3, ⟨(.c false [] ⟨[], [], [], 0, (.im (.sl 1 (v15.map (eI .u8)))), [], 0, [], 7⟩), [], []⟩), (4, ⟨(.h (.ivs (v16.map (eI .u8)))), [], []⟩)], .r [(3, ⟨(.h (.ivs (v17.map (eI .u8)))), [], []⟩)], .k ⟨[], [], [9], [], [], 0, [], []⟩])
          (r := (.fin (.tup [(.im (eI .i64 24)), (.im (.sl 1 (v17.map (eI .u8)))), (.im (eI .i64 0))]) [] 0)) (obs := [(decide (x2 < 12)) = true, (decide (x2 < 12)) = true, (decide (x2 < 12)) = true, (decide (x2 < 12)) = true, Ct.Ok PX 128 ⟨[(.im (eI .i64 x1)), (.im (eI .i64 (IntKind.wrap .i64 (x2 + 1)))), (.im (eI .i64 1))], [], 0, (.im (eI .i64 v1)), [], 0⟩, (decide (x2 < 12)) = true, (decide (x2 < 12)) = true, (decide (x2 < 12)) = true, (decide (v1 ≤ p0)) = false, Ct.Ok PX 128 ⟨[(.im (eI .i64 x1)), (.im (eI .i64 x2)), (.im (eI .i64 1))], [], 0, (.im (eI .i64 v2)), [], 0⟩, (decide (x1 > 2049)) = true, Ct.Ok PX 129 ⟨[(.im (eI .i64 (IntKind.wrap .i64 (Int.tdiv x1 100))))], [], 0, (.im (.sl 1 (v3.map (eI .u8)))), [], 0⟩, (v3.map (eI .u8)) = (v4.map (eI .u8)), (v4.map (eI .u8)).length * 1 ≤ 140737488355328, (v4.map (eI .u8)).length ≤ 9223372036854775807, Ct.Ok PX 129 ⟨[(.im (eI .i64 (Int.tmod x1 100)))], [], 0, (.im (.sl 1 (v5.map (eI .u8)))), [], 0⟩, (v4.map (eI .u8)) ++ (v5.map (eI .u8)) = (v6.map (eI .u8)), (v6.map (eI .u8)).length * 1 ≤ 140737488355328, (v6.map (eI .u8)).length ≤ 9223372036854775807, Ct.Ok PX 129 ⟨[(.im (eI .i64 x2))], [], 0, (.im (.sl 1 (v7.map (eI .u8)))), [], 0⟩, (v6.map (eI .u8)) ++ (v7.map (eI .u8)) = (v8.map (eI .u8)), (v8.map (eI .u8)).length * 1 ≤ 140737488355328, (v8.map (eI .u8)).length ≤ 9223372036854775807, Ct.Ok PX 129 ⟨[(.im (eI .i64 (IntKind.wrap .i64 (1 + (IntKind.wrap .i64 (Int.tdiv (IntKind.wrap .i64 (p0 - v2)) 86400))))))], [], 0, (.im (.sl 1 (v9.map (eI .u8)))), [], 0⟩, (v8.map (eI .u8)) ++ (v9.map (eI .u8)) = (v10.map (eI .u8)), (v10.map (eI .u8)).length * 1 ≤ 140737488355328, (v10.map (eI .u8)).length ≤ 9223372036854775807, Ct.Ok PX 129 ⟨[(.im (eI .i64 (Int.tmod (IntKind.wrap .i64 (Int.tdiv (IntKind.wrap .i64 (p0 - v2)) 3600)) 24)))], [], 0, (.im (.sl 1 (v11.map (eI .u8)))), [], 0⟩, (v10.map (eI .u8)) ++ (v11.map (eI .u8)) = (v12.map (eI .u8)), (v12.map (eI .u8)).length * 1 ≤ 140737488355328, (v12.map (eI .u8)).length ≤ 9223372036854775807, Ct.Ok PX 129 ⟨[(.im (eI .i64 (Int.tmod (IntKind.wrap .i64 (Int.tdiv (IntKind.wrap .i64 (p0 - v2)) 60)) 60)))], [], 0, (.im (.sl 1 (v13.map (eI .u8)))), [], 0⟩, (v12.map (eI .u8)) ++ (v13.map (eI .u8)) = (v14.map (eI .u8)), (v14.map (eI .u8)).length * 1 ≤ 140737488355328, (v14.map (eI .u8)).length ≤ 9223372036854775807, Ct.Ok PX 129 ⟨[(.im (eI .i64 (Int.tmod (IntKind.wrap .i64 (p0 - v2)) 60)))], [], 0, (.im (.sl 1 (v15.map (eI .u8)))), [], 0⟩, (v14.map (eI .u8)) ++ (v15.map (eI .u8)) = (v16.map (eI .u8)), (v16.map (eI .u8)).length * 1 ≤ 140737488355328, (v16.map (eI .u8)).length ≤ 9223372036854775807, (v16.map (eI .u8)) ++ [(eI .u8 90)] = (v17.map (eI .u8)), (v17.map (eI .u8)).length * 1 ≤ 140737488355328, (v17.map (eI .u8)).length ≤ 9223372036854775807])
          (by kernel_rfl) ⟨(dt h1), (dt h1), (dt h1), (dt h1), (f128_ok k x1 (IntKind.wrap .i64 (x2 + 1)) 1 v1 h2), (dt h1), (dt h1), (dt h1), (df h3), (f128_ok k x1 x2 1 v2 h4), (dt h5), (f129_ok k (IntKind.wrap .i64 (Int.tdiv x1 100)) v3 h6), (ap_mapn (eI .u8) h7), (ap_b (eI .u8) h7), (ap_n (eI .u8) h7), (f129_ok k (Int.tmod x1 100) v5 h8), (ap_map (eI .u8) h9), (ap_b (eI .u8) h9), (ap_n (eI .u8) h9), (f129_ok k x2 v7 h10), (ap_map (eI .u8) h11), (ap_b (eI .u8) h11), (ap_n (eI .u8) h11), (f129_ok k (IntKind.wrap .i64 (1 + (IntKind.wrap .i64 (Int.tdiv (IntKind.wrap .i64 (p0 - v2)) 86400)))) v9 h12), (ap_map (eI .u8) h13), (ap_b (eI .u8) h13), (ap_n (eI .u8) h13), (f129_ok k (Int.tmod (IntKind.wrap .i64 (Int.tdiv (IntKind.wrap .i64 (p0 - v2)) 3600)) 24) v11 h14), (ap_map (eI .u8) h15), (ap_b (eI .u8) h15), (ap_n (eI .u8) h15), (f129_ok k (Int.tmod (IntKind.wrap .i64 (Int.tdiv (IntKind.wrap .i64 (p0 - v2)) 60)) 60) v13 h16), (ap_map (eI .u8) h17), (ap_b (eI .u8) h17), (ap_n (eI .u8) h17), (f129_ok k (Int.tmod (IntKind.wrap .i64 (p0 - v2)) 60) v15 h18), (ap_map (eI .u8) h19), (ap_b (eI .u8) h19), (ap_n (eI .u8) h19), (ap_map (eI .u8) h20), (ap_b (eI .u8) h20), (ap_n (eI .u8) h20), trivial⟩ ⟨rfl, rfl, rfl⟩
      · rw [if_neg h5] at h
        obtain ⟨v3, h6, h⟩ := bnd h
        obtain ⟨v4, h7, h⟩ := bnd h
        obtain ⟨v5, h8, h⟩ := bnd h
        obtain ⟨v6, h9, h⟩ := bnd h
        obtain ⟨v7, h10, h⟩ := bnd h
        obtain ⟨v8, h11, h⟩ := bnd h
        obtain ⟨v9, h12, h⟩ := bnd h
        obtain ⟨v10, h13, h⟩ := bnd h
        obtain ⟨v11, h14, h⟩ := bnd h
        obtain ⟨v12, h15, h⟩ := bnd h
        obtain ⟨v13, h16, h⟩ := bnd h
        obtain ⟨v14, h17, h⟩ := bnd h
        obtain ⟨v15, h18, h⟩ := bnd h
        replace h := Option.some.inj h; subst h
        exact LH.round hT hm hfn (n := 1000) (ds := [.r [(3, ⟨(.h (.gt .no)), [], []⟩), (4, ⟨(.h (.gt .no)), [], []⟩), (5, ⟨(.h (.gt .no)), [], []⟩), (6, ⟨(.c true [] ⟨[], [], [], 0, (.im (eI .i64 v1)), [], 0, [], 0⟩), [], []⟩), (7, ⟨(.h (.gt .no)), [], []⟩), (8, ⟨(.h (.gt .no)), [], []⟩), (9, ⟨(.h (.gt .no)), [], []⟩)], .b false, .r [(3, ⟨(.c false [] ⟨[], [], [], 0, (.im (eI .i64 v2)), [], 0, [], 0⟩), [], []⟩)], .r [], .r [], .r [], .b false, .r [(3, ⟨(.c false [] ⟨[], [], [], 0, (.im (.sl 1 (v3.map (eI .u8)))), [], 0, [], 0⟩), [], []⟩), (4, ⟨(.h (.ivs (v4.map (eI .u8)))), [], []⟩)], .r [(2, ⟨(.c false [] ⟨[], [], [], 0, (.im (.sl 1 (v5.map (eI .u8)))), [], 0, [], 2⟩), [], []⟩), (3, ⟨(.h (.ivs (v6.map (eI .u8)))), [], []⟩)], .r [(4, ⟨(.c false [] ⟨[], [], [], 0, (.im (.sl 1 (v7.map (eI .u8)))), [], 0, [], 3⟩), [], []⟩), (5, ⟨(.h (.ivs (v8.map (eI .u8)))), [], []⟩)], .r [(4, ⟨(.c false [] ⟨[], [], [], 0, (.im (.sl 1 (v9.map (eI .u8)))), [], 0, [], 4⟩), [], []⟩), (5, ⟨(.h (.ivs (v10.map (eI .u8)))), [], []⟩)], .r [(4, ⟨(.c false [] ⟨[], [], [], 0, (.im (.sl 1 (v11.map (eI .u8)))), [], 0, [], 5⟩), [], []⟩), (5, ⟨(.h (.ivs (v12.map (eI .u8)))), [], []⟩)], .r [(3, ⟨(.c false [] ⟨[], [], [], 0, (.im (.sl 1 (v13.map (eI .u8)))), [], 0, [], 6⟩), [], []⟩), (4, ⟨(.h (.ivs (v14.map (eI .u8)))), [], []⟩)], .r [(3, ⟨(.h (.ivs (v15.map (eI .u8)))), [], []⟩)], .k ⟨[], [], [8], [], [], 0, [], []⟩])
          (r := (.fin (.tup [(.im (eI .i64 23)), (.im (.sl 1 (v15.map (eI .u8)))), (.im (eI .i64 0))]) [] 0)) (obs := [(decide (x2 < 12)) = true, (decide (x2 < 12)) = true, (decide (x2 < 12)) = true, (decide (x2 < 12)) = true, Ct.Ok PX 128 ⟨[(.im (eI .i64 x1)), (.im (eI .i64 (IntKind.wrap .i64 (x2 + 1)))), (.im (eI .i64 1))], [], 0, (.im (eI .i64 v1)), [], 0⟩, (decide (x2 < 12)) = true, (decide (x2 < 12)) = true, (decide (x2 < 12)) = true, (decide (v1 ≤ p0)) = false, Ct.Ok PX 128 ⟨[(.im (eI .i64 x1)), (.im (eI .i64 x2)), (.im (eI .i64 1))], [], 0, (.im (eI .i64 v2)), [], 0⟩, (decide (x1 > 2049)) = false, Ct.Ok PX 129 ⟨[(.im (eI .i64 (Int.tmod x1 100)))], [], 0, (.im (.sl 1 (v3.map (eI .u8)))), [], 0⟩, (v3.map (eI .u8)) = (v4.map (eI .u8)), (v4.map (eI .u8)).length * 1 ≤ 140737488355328, (v4.map (eI .u8)).length ≤ 9223372036854775807, Ct.Ok PX 129 ⟨[(.im (eI .i64 x2))], [], 0, (.im (.sl 1 (v5.map (eI .u8)))), [], 0⟩, (v4.map (eI .u8)) ++ (v5.map (eI .u8)) = (v6.map (eI .u8)), (v6.map (eI .u8)).length * 1 ≤ 140737488355328, (v6.map (eI .u8)).length ≤ 9223372036854775807, Ct.Ok PX 129 ⟨[(.im (eI .i64 (IntKind.wrap .i64 (1 + (IntKind.wrap .i64 (Int.tdiv (IntKind.wrap .i64 (p0 - v2)) 86400))))))], [], 0, (.im (.sl 1 (v7.map (eI .u8)))), [], 0⟩, (v6.map (eI .u8)) ++ (v7.map (eI .u8)) = (v8.map (eI .u8)), (v8.map (eI .u8)).length * 1 ≤ 140737488355328, (v8.map (eI .u8)).length ≤ 9223372036854775807, Ct.Ok PX 129 ⟨[(.im (eI .i64 (Int.tmod (IntKind.wrap .i64 (Int.tdiv (IntKind.wrap .i64 (p0 - v2)) 3600)) 24)))], [], 0, (.im (.sl 1 (v9.map (eI .u8)))), [], 0⟩, (v8.map (eI .u8)) ++ (v9.map (eI .u8)) = (v10.map (eI .u8)), (v10.map (eI .u8)).length * 1 ≤ 140737488355328, (v10.map (eI .u8)).length ≤ 9223372036854775807, Ct.Ok PX 129 ⟨[(.im (eI .i64 (Int.tmod (IntKind.wrap .i64 (Int.tdiv (IntKind.wrap .i64 (p0 - v2)) 60)) 60)))], [], 0, (.im (.sl 1 (v11.map (eI .u8)))), [], 0⟩, (v10.map (eI .u8)) ++ (v11.map (eI .u8)) = (v12.map (eI .u8)), (v12.map (eI .u8)).length * 1 ≤ 140737488355328, (v12.map (eI .u8)).length ≤ 9223372036854775807, Ct.Ok PX 129 ⟨[(.im (eI .i64 (Int.tmod (IntKind.wrap .i64 (p0 - v2)) 60)))], [], 0, (.im (.sl 1 (v13.map (eI .u8)))), [], 0⟩, (v12.map (eI .u8)) ++ (v13.map (eI .u8)) = (v14.map (eI .u8)), (v14.map (eI .u8)).length * 1 ≤ 140737488355328, (v14.map (eI .u8)).length ≤ 9223372036854775807, (v14.map (eI .u8)) ++ [(eI .u8 90)] = (v15.map (eI .u8)), (v15.map (eI .u8)).length * 1 ≤ 140737488355328, (v15.map (eI .u8)).length ≤ 9223372036854775807])
          (by kernel_rfl) ⟨(dt h1), (dt h1), (dt h1), (dt h1), (f128_ok k x1 (IntKind.wrap .i64 (x2 + 1)) 1 v1 h2), (dt h1), (dt h1), (dt h1), (df h3), (f128_ok k x1 x2 1 v2 h4), (df h5), (f129_ok k (Int.tmod x1 100) v3 h6), (ap_mapn (eI .u8) h7), (ap_b (eI .u8) h7), (ap_n (eI .u8) h7), (f129_ok k x2 v5 h8), (ap_map (eI .u8) h9), (ap_b (eI .u8) h9), (ap_n (eI .u8) h9), (f129_ok k (IntKind.wrap .i64 (1 + (IntKind.wrap .i64 (Int.tdiv (IntKind.wrap .i64 (p0 - v2)) 86400)))) v7 h10), (ap_map (eI .u8) h11), (ap_b (eI .u8) h11), (ap_n (eI .u8) h11), (f129_ok k (Int.tmod (IntKind.wrap .i64 (Int.tdiv (IntKind.wrap .i64 (p0 - v2)) 3600)) 24) v9 h12), (ap_map (eI .u8) h13), (ap_b (eI .u8) h13), (ap_n (eI .u8) h13), (f129_ok k (Int.tmod (IntKind.wrap .i64 (Int.tdiv (IntKind.wrap .i64 (p0 - v2)) 60)) 60) v11 h14), (ap_map (eI .u8) h15), (ap_b (eI .u8) h15), (ap_n (eI .u8) h15), (f129_ok k (Int.tmod (IntKind.wrap .i64 (p0 - v2)) 60) v13 h16), (ap_map (eI .u8) h17), (ap_b (eI .u8) h17), (ap_n (eI .u8) h17), (ap_map (eI .u8) h18), (ap_b (eI .u8) h18), (ap_n (eI .u8) h18), trivial⟩ ⟨rfl, rfl, rfl⟩
  · rw [if_neg h1] at h
    obtain ⟨v1, h2, h⟩ := bnd h
    by_cases h3 : x1 > 2049
    · rw [if_pos h3] at h
      obtain ⟨v2, h4, h⟩ := bnd h
      obtain ⟨v3, h5, h⟩ := bnd h
      obtain ⟨v4, h6, h⟩ := bnd h
      obtain ⟨v5, h7, h⟩ := bnd h
      obtain ⟨v6, h8, h⟩ := bnd h
      obtain ⟨v7, h9, h⟩ := bnd h
      obtain ⟨v8, h10, h⟩ := bnd h
      obtain ⟨v9, h11, h⟩ := bnd h
      obtain ⟨v10, h12, h⟩ := bnd h
      obtain ⟨v11, h13, h⟩ := bnd h
      obtain ⟨v12, h14, h⟩ := bnd h
      obtain ⟨v13, h15, h⟩ := bnd h
      obtain ⟨v14, h16, h⟩ := bnd h
      obtain ⟨v15, h17, h⟩ := bnd h
      obtain ⟨v16, h18, h⟩ := bnd h
      replace h := Option.some.inj h; subst h
      exact LH.round hT hm hfn (n := 1000) (ds := [.r [(3, ⟨(.h .gf), [], []⟩), (4, ⟨(.h .gf), [], []⟩), (5, ⟨(.h .gf), [], []⟩), (6, ⟨(.h .gf), [], []⟩), (7, ⟨(.h .gf), [], []⟩), (8, ⟨(.h .gf), [], []⟩), (9, ⟨(.h .gf), [], []⟩)], .bc false, .r [(3, ⟨(.c false [] ⟨[], [], [], 0, (.im (eI .i64 v1)), [], 0, [], 0⟩), [], []⟩)], .r [], .r [], .r [], .b true, .r [], .r [(3, ⟨(.c false [] ⟨[], [], [], 0, (.im (.sl 1 (v2.map (eI .u8)))), [], 0, [], 0⟩), [], []⟩), (4, ⟨(.h (.ivs (v3.map (eI .u8)))), [], []⟩)], .r [(3, ⟨(.c false [] ⟨[], [], [], 0, (.im (.sl 1 (v4.map (eI .u8)))), [], 0, [], 2⟩), [], []⟩), (4, ⟨(.h (.ivs (v5.map (eI .u8)))), [], []⟩)], .r [(2, ⟨(.c false [] ⟨[], [], [], 0, (.im (.sl 1 (v6.map (eI .u8)))), [], 0, [], 3⟩), [], []⟩), (3, ⟨(.h (.ivs (v7.map (eI .u8)))), [], []⟩)], .r [(4, ⟨(.c false [] ⟨[], [], [], 0, (.im (.sl 1 (v8.map (eI .u8)))), [], 0, [], 4⟩), [], []⟩), (5, ⟨(.h (.ivs (v9.map (eI .u8)))), [], []⟩)], .r [(4, ⟨(.c false [] ⟨[], [], [], 0, (.im (.sl 1 (v10.map (eI .u8)))), [], 0, [], 5⟩), [], []⟩), (5, ⟨(.h (.ivs (v11.map (eI .u8)))), [], []⟩)], .r [(4, ⟨(.c false [] ⟨[], [], [], 0, (.im (.sl 1 (v12.map (eI .u8)))), [], 0, [], 6⟩), [], []⟩), (5, ⟨(.h (.ivs (v13.map (eI .u8)))), [], []⟩)], .r [(3, ⟨(.c false [] ⟨[], [], [], 0, (.im (.sl 1 (v14.map (eI .u8)))), [], 0, [], 7⟩), [], []⟩), (4, ⟨(.h (.ivs (v15.map (eI .u8)))), [], []⟩)], .r [(3, ⟨(.h (.ivs (v16.map (eI .u8)))), [], []⟩)], .k ⟨[], [], [9], [], [], 0, [], []⟩])
        (r := (.fin (.tup [(.im (eI .i64 24)), (.im (.sl 1 (v16.map (eI .u8)))), (.im (eI .i64 0))]) [] 0)) (obs := [(decide (x2 < 12)) = !true, (decide (x2 < 12)) = !true, (decide (x2 < 12)) = !true, (decide (x2 < 12)) = !true, (decide (x2 < 12)) = !true, (decide (x2 < 12)) = !true, (decide (x2 < 12)) = false, Ct.Ok PX 128 ⟨[(.im (eI .i64 x1)), (.im (eI .i64 x2)), (.im (eI .i64 1))], [], 0, (.im (eI .i64 v1)), [], 0⟩, (decide (x1 > 2049)) = true, Ct.Ok PX 129 ⟨[(.im (eI .i64 (IntKind.wrap .i64 (Int.tdiv x1 100))))], [], 0, (.im (.sl 1 (v2.map (eI .u8)))), [], 0⟩, (v2.map (eI .u8)) = (v3.map (eI .u8)), (v3.map (eI .u8)).length * 1 ≤ 140737488355328, (v3.map (eI .u8)).length ≤ 9223372036854775807, Ct.Ok PX 129 ⟨[(.im (eI .i64 (Int.tmod x1 100)))], [], 0, (.im (.sl 1 (v4.map (eI .u8)))), [], 0⟩, (v3.map (eI .u8)) ++ (v4.map (eI .u8)) = (v5.map (eI .u8)), (v5.map (eI .u8)).length * 1 ≤ 140737488355328, (v5.map (eI .u8)).length ≤ 9223372036854775807, Ct.Ok PX 129 ⟨[(.im (eI .i64 x2))], [], 0, (.im (.sl 1 (v6.map (eI .u8)))), [], 0⟩, (v5.map (eI .u8)) ++ (v6.map (eI .u8)) = (v7.map (eI .u8)), (v7.map (eI .u8)).length * 1 ≤ 140737488355328, (v7.map (eI .u8)).length ≤ 9223372036854775807, Ct.Ok PX 129 ⟨[(.im (eI .i64 (IntKind.wrap .i64 (1 + (IntKind.wrap .i64 (Int.tdiv (IntKind.wrap .i64 (p0 - v1)) 86400))))))], [], 0, (.im (.sl 1 (v8.map (eI .u8)))), [], 0⟩, (v7.map (eI .u8)) ++ (v8.map (eI .u8)) = (v9.map (eI .u8)), (v9.map (eI .u8)).length * 1 ≤ 140737488355328, (v9.map (eI .u8)).length ≤ 9223372036854775807, Ct.Ok PX 129 ⟨[(.im (eI .i64 (Int.tmod (IntKind.wrap .i64 (Int.tdiv (IntKind.wrap .i64 (p0 - v1)) 3600)) 24)))], [], 0, (.im (.sl 1 (v10.map (eI .u8)))), [], 0⟩, (v9.map (eI .u8)) ++ (v10.map (eI .u8)) = (v11.map (eI .u8)), (v11.map (eI .u8)).length * 1 ≤ 140737488355328, (v11.map (eI .u8)).length ≤ 9223372036854775807, Ct.Ok PX 129 ⟨[(.im (eI .i64 (Int.tmod (IntKind.wrap .i64 (Int.tdiv (IntKind.wrap .i64 (p0 - v1)) 60)) 60)))], [], 0, (.im (.sl 1 (v12.map (eI .u8)))), [], 0⟩, (v11.map (eI .u8)) ++ (v12.map (eI .u8)) = (v13.map (eI .u8)), (v13.map (eI .u8)).length * 1 ≤ 140737488355328, (v13.map (eI .u8)).length ≤ 9223372036854775807, Ct.Ok PX 129 ⟨[(.im (eI .i64 (Int.tmod (IntKind.wrap .i64 (p0 - v1)) 60)))], [], 0, (.im (.sl 1 (v14.map (eI .u8)))), [], 0⟩, (v13.map (eI .u8)) ++ (v14.map (eI .u8)) = (v15.map (eI .u8)), (v15.map (eI .u8)).length * 1 ≤ 140737488355328, (v15.map (eI .u8)).length ≤ 9223372036854775807, (v15.map (eI .u8)) ++ [(eI .u8 90)] = (v16.map (eI .u8)), (v16.map (eI .u8)).length * 1 ≤ 140737488355328, (v16.map (eI .u8)).length ≤ 9223372036854775807])
        (by kernel_rfl) ⟨(df h1), (df h1), (df h1), (df h1), (df h1), (df h1), (df h1), (f128_ok k x1 x2 1 v1 h2), (dt h3), (f129_ok k (IntKind.wrap .i64 (Int.tdiv x1 100)) v2 h4), (ap_mapn (eI .u8) h5), (ap_b (eI .u8) h5), (ap_n (eI .u8) h5), (f129_ok k (Int.tmod x1 100) v4 h6), (ap_map (eI .u8) h7), (ap_b (eI .u8) h7), (ap_n (eI .u8) h7), (f129_ok k x2 v6 h8), (ap_map (eI .u8) h9), (ap_b (eI .u8) h9), (ap_n (eI .u8) h9), (f129_ok k (IntKind.wrap .i64 (1 + (IntKind.wrap .i64 (Int.tdiv (IntKind.wrap .i64 (p0 - v1)) 86400)))) v8 h10), (ap_map (eI .u8) h11), (ap_b (eI .u8) h11), (ap_n (eI .u8) h11), (f129_ok k (Int.tmod (IntKind.wrap .i64 (Int.tdiv (IntKind.wrap .i64 (p0 - v1)) 3600)) 24) v10 h12), (ap_map (eI .u8) h13), (ap_b (eI .u8) h13), (ap_n (eI .u8) h13), (f129_ok k (Int.tmod (IntKind.wrap .i64 (Int.tdiv (IntKind.wrap .i64 (p0 - v1)) 60)) 60) v12 h14), (ap_map (eI .u8) h15), (ap_b (eI .u8) h15), (ap_n (eI .u8) h15), (f129_ok k (Int.tmod (IntKind.wrap .i64 (p0 - v1)) 60) v14 h16), (ap_map (eI .u8) h17), (ap_b (eI .u8) h17), (ap_n (eI .u8) h17), (ap_map (eI .u8) h18), (ap_b (eI .u8) h18), (ap_n (eI .u8) h18), trivial⟩ ⟨rfl, rfl, rfl⟩
    · rw [if_neg h3] at h
      obtain ⟨v2, h4, h⟩ := bnd h
      obtain ⟨v3, h5, h⟩ := bnd h
      obtain ⟨v4, h6, h⟩ := bnd h
      obtain ⟨v5, h7, h⟩ := bnd h
      obtain ⟨v6, h8, h⟩ := bnd h
      obtain ⟨v7, h9, h⟩ := bnd h
      obtain ⟨v8, h10, h⟩ := bnd h
      obtain ⟨v9, h11, h⟩ := bnd h
      obtain ⟨v10, h12, h⟩ := bnd h
      obtain ⟨v11, h13, h⟩ := bnd h
      obtain ⟨v12, h14, h⟩ := bnd h
      obtain ⟨v13, h15, h⟩ := bnd h
      obtain ⟨v14, h16, h⟩ := bnd h
      replace h := Option.some.inj h; subst h
      exact LH.round hT hm hfn (n := 1000) (ds := [.r [(3, ⟨(.h .gf), [], []⟩), (4, ⟨(.h .gf), [], []⟩), (5, ⟨(.h .gf), [], []⟩), (6, ⟨(.h .gf), [], []⟩), (7, ⟨(.h .gf), [], []⟩), (8, ⟨(.h .gf), [], []⟩), (9, ⟨(.h .gf), [], []⟩)], .bc false, .r [(3, ⟨(.c false [] ⟨[], [], [], 0, (.im (eI .i64 v1)), [], 0, [], 0⟩), [], []⟩)], .r [], .r [], .r [], .b false, .r [(3, ⟨(.c false [] ⟨[], [], [], 0, (.im (.sl 1 (v2.map (eI .u8)))), [], 0, [], 0⟩), [], []⟩), (4, ⟨(.h (.ivs (v3.map (eI .u8)))), [], []⟩)], .r [(2, ⟨(.c false [] ⟨[], [], [], 0, (.im (.sl 1 (v4.map (eI .u8)))), [], 0, [], 2⟩), [], []⟩), (3, ⟨(.h (.ivs (v5.map (eI .u8)))), [], []⟩)], .r [(4, ⟨(.c false [] ⟨[], [], [], 0, (.im (.sl 1 (v6.map (eI .u8)))), [], 0, [], 3⟩), [], []⟩), (5, ⟨(.h (.ivs (v7.map (eI .u8)))), [], []⟩)], .r [(4, ⟨(.c false [] ⟨[], [], [], 0, (.im (.sl 1 (v8.map (eI .u8)))), [], 0, [], 4⟩), [], []⟩), (5, ⟨(.h (.ivs (v9.map (eI .u8)))), [], []⟩)], .r [(4, ⟨(.c false [] ⟨[], [], [], 0, (.im (.sl 1 (v10.map (eI .u8)))), [], 0, [], 5⟩), [], []⟩), (5, ⟨(.h (.ivs (v11.map (eI .u8)))), [], []⟩)], .r [(3, ⟨(.c false [] ⟨[], [], [], 0, (.im (.sl 1 (v12.map (eI .u8)))), [], 0, [], 6⟩), [], []⟩), (4, ⟨(.h (.ivs (v13.map (eI .u8)))), [], []⟩)], .r [(3, ⟨(.h (.ivs (v14.map (eI .u8)))), [], []⟩)], .k ⟨[], [], [8], [], [], 0, [], []⟩])
        (r := (.fin (.tup [(.im (eI .i64 23)), (.im (.sl 1 (v14.map (eI .u8)))), (.im (eI .i64 0))]) [] 0)) (obs := [(decide (x2 < 12)) = !true, (decide (x2 < 12)) = !true, (decide (x2 < 12)) = !true, (decide (x2 < 12)) = !true, (decide (x2 < 12)) = !true, (decide (x2 < 12)) = !true, (decide (x2 < 12)) = false, Ct.Ok PX 128 ⟨[(.im (eI .i64 x1)), (.im (eI .i64 x2)), (.im (eI .i64 1))], [], 0, (.im (eI .i64 v1)), [], 0⟩, (decide (x1 > 2049)) = false, Ct.Ok PX 129 ⟨[(.im (eI .i64 (Int.tmod x1 100)))], [], 0, (.im (.sl 1 (v2.map (eI .u8)))), [], 0⟩, (v2.map (eI .u8)) = (v3.map (eI .u8)), (v3.map (eI .u8)).length * 1 ≤ 140737488355328, (v3.map (eI .u8)).length ≤ 9223372036854775807, Ct.Ok PX 129 ⟨[(.im (eI .i64 x2))], [], 0, (.im (.sl 1 (v4.map (eI .u8)))), [], 0⟩, (v3.map (eI .u8)) ++ (v4.map (eI .u8)) = (v5.map (eI .u8)), (v5.map (eI .u8)).length * 1 ≤ 140737488355328, (v5.map (eI .u8)).length ≤ 9223372036854775807, Ct.Ok PX 129 ⟨[(.im (eI .i64 (IntKind.wrap .i64 (1 + (IntKind.wrap .i64 (Int.tdiv (IntKind.wrap .i64 (p0 - v1)) 86400))))))], [], 0, (.im (.sl 1 (v6.map (eI .u8)))), [], 0⟩, (v5.map (eI .u8)) ++ (v6.map (eI .u8)) = (v7.map (eI .u8)), (v7.map (eI .u8)).length * 1 ≤ 140737488355328, (v7.map (eI .u8)).length ≤ 9223372036854775807, Ct.Ok PX 129 ⟨[(.im (eI .i64 (Int.tmod (IntKind.wrap .i64 (Int.tdiv (IntKind.wrap .i64 (p0 - v1)) 3600)) 24)))], [], 0, (.im (.sl 1 (v8.map (eI .u8)))), [], 0⟩, (v7.map (eI .u8)) ++ (v8.map (eI .u8)) = (v9.map (eI .u8)), (v9.map (eI .u8)).length * 1 ≤ 140737488355328, (v9.map (eI .u8)).length ≤ 9223372036854775807, Ct.Ok PX 129 ⟨[(.im (eI .i64 (Int.tmod (IntKind.wrap .i64 (Int.tdiv (IntKind.wrap .i64 (p0 - v1)) 60)) 60)))], [], 0, (.im (.sl 1 (v10.map (eI .u8)))), [], 0⟩, (v9.map (eI .u8)) ++ (v10.map (eI .u8)) = (v11.map (eI .u8)), (v11.map (eI .u8)).length * 1 ≤ 140737488355328, (v11.map (eI .u8)).length ≤ 9223372036854775807, Ct.Ok PX 129 ⟨[(.im (eI .i64 (Int.tmod (IntKind.wrap .i64 (p0 - v1)) 60)))], [], 0, (.im (.sl 1 (v12.map (eI .u8)))), [], 0⟩, (v11.map (eI .u8)) ++ (v12.map (eI .u8)) = (v13.map (eI .u8)), (v13.map (eI .u8)).length * 1 ≤ 140737488355328, (v13.map (eI .u8)).length ≤ 9223372036854775807, (v13.map (eI .u8)) ++ [(eI .u8 90)] = (v14.map (eI .u8)), (v14.map (eI .u8)).length * 1 ≤ 140737488355328, (v14.map (eI .u8)).length ≤ 9223372036854775807])
        (by kernel_rfl) ⟨(df h1), (df h1), (df h1), (df h1), (df h1), (df h1), (df h1), (f128_ok k x1 x2 1 v1 h2), (df h3), (f129_ok k (Int.tmod x1 100) v2 h4), (ap_mapn (eI .u8) h5), (ap_b (eI .u8) h5), (ap_n (eI .u8) h5), (f129_ok k x2 v4 h6), (ap_map (eI .u8) h7), (ap_b (eI .u8) h7), (ap_n (eI .u8) h7), (f129_ok k (IntKind.wrap .i64 (1 + (IntKind.wrap .i64 (Int.tdiv (IntKind.wrap .i64 (p0 - v1)) 86400)))) v6 h8), (ap_map (eI .u8) h9), (ap_b (eI .u8) h9), (ap_n (eI .u8) h9), (f129_ok k (Int.tmod (IntKind.wrap .i64 (Int.tdiv (IntKind.wrap .i64 (p0 - v1)) 3600)) 24) v8 h10), (ap_map (eI .u8) h11), (ap_b (eI .u8) h11), (ap_n (eI .u8) h11), (f129_ok k (Int.tmod (IntKind.wrap .i64 (Int.tdiv (IntKind.wrap .i64 (p0 - v1)) 60)) 60) v10 h12), (ap_map (eI .u8) h13), (ap_b (eI .u8) h13), (ap_n (eI .u8) h13), (f129_ok k (Int.tmod (IntKind.wrap .i64 (p0 - v1)) 60) v12 h14), (ap_map (eI .u8) h15), (ap_b (eI .u8) h15), (ap_n (eI .u8) h15), (ap_map (eI .u8) h16), (ap_b (eI .u8) h16), (ap_n (eI .u8) h16), trivial⟩ ⟨rfl, rfl, rfl⟩

theorem f82L1_all : ∀ k, f82L1_P k
  | 0 => (by intro fn hfn _ _ _ r h; rw [f82L1] at h; cases h)
  | k + 1 => f82L1_step k (f82L1_all k)

theorem f82L1_ok (fn : Func) (hfn : fn.results = ([.t 2, .t 3, .t 4].map Rv.var).toArray) (k : Nat) : ∀ (p0 : Int) (x1 : Int) (x2 : Int) (r : Int × (List Int) × Int), f82L1 k p0 x1 x2 = some r → LH PX ⟨fn, 86, 0, (.tup [(.im (eI .i64 r.1)), (.im (.sl 1 (r.2.1.map (eI .u8)))), (.im (eI .i64 r.2.2))]), [], 0⟩ cc82_2 [.blk 2, .seq cc82_3] (f82L1_S p0 x1 x2) := (f82L1_all k) fn hfn
end Go.Proofs.Tryd.E
end

section
namespace Go.Proofs.Tryd.E
open Go Go.Eng
set_option maxRecDepth 100000
set_option linter.unusedVariables false
def f82L0_S (p0 : Int) (x1 : Int) : S := ⟨[(0, (.im (eI .i64 p0))), (5, (.im (eI .i64 x1)))], [], 0⟩

def f82L0 : Nat → Int → Int → Option (Int × (List Int) × Int)
  | 0, _, _ => none
  | k + 1, p0, x1 =>
    (f128 k (IntKind.wrap .i64 (x1 + 1)) 1 1).bind fun v1 =>
    if v1 ≤ p0 then (
     f82L0 k p0 (IntKind.wrap .i64 (x1 + 1)))
    else (
     f82L1 k p0 x1 1)

def f82L0_P (k : Nat) : Prop := ∀ (fn : Func) (_ : fn.results = ([.t 2, .t 3, .t 4].map Rv.var).toArray), ∀ (p0 : Int) (x1 : Int) (r : Int × (List Int) × Int), f82L0 k p0 x1 = some r → LH PX ⟨fn, 86, 0, (.tup [(.im (eI .i64 r.1)), (.im (.sl 1 (r.2.1.map (eI .u8)))), (.im (eI .i64 r.2.2))]), [], 0⟩ cc82_0 [.blk 0, .seq cc82_1] (f82L0_S p0 x1)

theorem f82L0_step (k : Nat) (ih_f82L0 : f82L0_P k) : f82L0_P (k + 1) := by
  intro fn hfn p0 x1 r h
  rw [f82L0] at h
  obtain ⟨v1, h1, h⟩ := bnd h
  by_cases h2 : v1 ≤ p0
  · rw [if_pos h2] at h
    exact LH.round hT hm hfn (n := 1000) (ds := [.r [(2, ⟨(.c false [] ⟨[], [], [], 0, (.im (eI .i64 v1)), [], 0, [], 0⟩), [], []⟩)], .b true, .r [], .k ⟨[], [], [], [0, 5], [], 0, [], []⟩])
      (r := (.head cc82_0 [.blk 0, .seq cc82_1] (f82L0_S p0 (IntKind.wrap .i64 (x1 + 1))))) (obs := [Ct.Ok PX 128 ⟨[(.im (eI .i64 (IntKind.wrap .i64 (x1 + 1)))), (.im (eI .i64 1)), (.im (eI .i64 1))], [], 0, (.im (eI .i64 v1)), [], 0⟩, (decide (v1 ≤ p0)) = true])
      (by kernel_rfl) ⟨(f128_ok k (IntKind.wrap .i64 (x1 + 1)) 1 1 v1 h1), (dt h2), trivial⟩ (ih_f82L0 fn hfn p0 (IntKind.wrap .i64 (x1 + 1)) _ h)
  · rw [if_neg h2] at h
    exact LH.round hT hm hfn (n := 1000) (ds := [.r [(2, ⟨(.c false [] ⟨[], [], [], 0, (.im (eI .i64 v1)), [], 0, [], 0⟩), [], []⟩)], .b false, .r [], .k ⟨[], [], [], [0, 5, 6], [], 0, [], []⟩])
      (r := (.head cc82_2 [.blk 2, .seq cc82_3] (f82L1_S p0 x1 1))) (obs := [Ct.Ok PX 128 ⟨[(.im (eI .i64 (IntKind.wrap .i64 (x1 + 1)))), (.im (eI .i64 1)), (.im (eI .i64 1))], [], 0, (.im (eI .i64 v1)), [], 0⟩, (decide (v1 ≤ p0)) = false])
      (by kernel_rfl) ⟨(f128_ok k (IntKind.wrap .i64 (x1 + 1)) 1 1 v1 h1), (df h2), trivial⟩ (f82L1_ok fn hfn k p0 x1 1 _ h)

theorem f82L0_all : ∀ k, f82L0_P k
  | 0 => (by intro fn hfn _ _ r h; rw [f82L0] at h; cases h)
  | k + 1 => f82L0_step k (f82L0_all k)

theorem f82L0_ok (fn : Func) (hfn : fn.results = ([.t 2, .t 3, .t 4].map Rv.var).toArray) (k : Nat) : ∀ (p0 : Int) (x1 : Int) (r : Int × (List Int) × Int), f82L0 k p0 x1 = some r → LH PX ⟨fn, 86, 0, (.tup [(.im (eI .i64 r.1)), (.im (.sl 1 (r.2.1.map (eI .u8)))), (.im (eI .i64 r.2.2))]), [], 0⟩ cc82_0 [.blk 0, .seq cc82_1] (f82L0_S p0 x1) := (f82L0_all k) fn hfn

def f82 (k : Nat) (p0 : Int) : Option (Int × (List Int) × Int) :=
  (f128 k 1950 1 1).bind fun v1 =>
  if p0 < v1 then (
   some (0, [], 3))
  else (
   (f128 k 9999 12 31).bind fun v2 =>
   if p0 > (IntKind.wrap .i64 (v2 + 86399)) then (
    some (0, [], 3))
   else (
    f82L0 k p0 1950))

theorem f82_ok (k : Nat) : ∀ (p0 : Int) (r : Int × (List Int) × Int), f82 k p0 = some r → Ct.Ok PX 82 ⟨[(.im (eI .i64 p0))], [], 0, (.tup [(.im (eI .i64 r.1)), (.im (.sl 1 (r.2.1.map (eI .u8)))), (.im (eI .i64 r.2.2))]), [], 0⟩ := by
  intro p0 r h
  unfold f82 at h
  obtain ⟨v1, h1, h⟩ := bnd h
  by_cases h2 : p0 < v1
  · rw [if_pos h2] at h
    replace h := Option.some.inj h; subst h
    exact Ct.ofWalk hT hm F82 (by kernel_rfl) (n := 1000) (ds := [.r [], .r [(1, ⟨(.c false [] ⟨[], [], [], 0, (.im (eI .i64 v1)), [], 0, [], 0⟩), [], []⟩), (4, ⟨(.h .gf), [], []⟩), (5, ⟨(.h .gf), [], []⟩), (6, ⟨(.h .gf), [], []⟩), (7, ⟨(.h .gf), [], []⟩), (8, ⟨(.h (.gt .no)), [], []⟩)], .bc true, .r [], .k ⟨[], [], [], [], [], 0, [(0, (.s [.k, (.n 1)]))], []⟩])
      (r := (.fin (.tup [(.im (eI .i64 0)), (.im (.sl 1 [])), (.im (eI .i64 3))]) [] 0)) (obs := [Ct.Ok PX 128 ⟨[(.im (eI .i64 1950)), (.im (eI .i64 1)), (.im (eI .i64 1))], [], 0, (.im (eI .i64 v1)), [], 0⟩, (decide (p0 < v1)) = !false, (decide (p0 < v1)) = !false, (decide (p0 < v1)) = !false, (decide (p0 < v1)) = !false, (decide (p0 < v1)) = true])
      (by kernel_rfl) ⟨(f128_ok k 1950 1 1 v1 h1), (dt h2), (dt h2), (dt h2), (dt h2), (dt h2), trivial⟩ (fun fn hfn => ⟨rfl, rfl, rfl⟩)
  · rw [if_neg h2] at h
    obtain ⟨v2, h3, h⟩ := bnd h
    by_cases h4 : p0 > (IntKind.wrap .i64 (v2 + 86399))
    · rw [if_pos h4] at h
      replace h := Option.some.inj h; subst h
      exact Ct.ofWalk hT hm F82 (by kernel_rfl) (n := 1000) (ds := [.r [], .r [(1, ⟨(.c false [] ⟨[], [], [], 0, (.im (eI .i64 v1)), [], 0, [], 0⟩), [], []⟩), (4, ⟨(.h (.gt .no)), [], []⟩), (5, ⟨(.c true [] ⟨[], [], [], 0, (.im (eI .i64 v2)), [], 0, [], 0⟩), [], []⟩), (6, ⟨(.h (.gt .no)), [], []⟩), (7, ⟨(.h (.gt .no)), [], []⟩), (8, ⟨(.h .gf), [], []⟩)], .b true, .r [], .k ⟨[], [], [], [], [], 0, [(0, (.s [.k, (.n 1)]))], []⟩])
        (r := (.fin (.tup [(.im (eI .i64 0)), (.im (.sl 1 [])), (.im (eI .i64 3))]) [] 0)) (obs := [Ct.Ok PX 128 ⟨[(.im (eI .i64 1950)), (.im (eI .i64 1)), (.im (eI .i64 1))], [], 0, (.im (eI .i64 v1)), [], 0⟩, (decide (p0 < v1)) = false, (decide (p0 < v1)) = false, Ct.Ok PX 128 ⟨[(.im (eI .i64 9999)), (.im (eI .i64 12)), (.im (eI .i64 31))], [], 0, (.im (eI .i64 v2)), [], 0⟩, (decide (p0 < v1)) = false, (decide (p0 < v1)) = false, (decide (p0 < v1)) = false, (decide (p0 > (IntKind.wrap .i64 (v2 + 86399)))) = true])
        (by kernel_rfl) ⟨(f128_ok k 1950 1 1 v1 h1), (df h2), (df h2), (f128_ok k 9999 12 31 v2 h3), (df h2), (df h2), (df h2), (dt h4), trivial⟩ (fun fn hfn => ⟨rfl, rfl, rfl⟩)
    · rw [if_neg h4] at h
      exact Ct.ofWalk hT hm F82 (by kernel_rfl) (n := 1000) (ds := [.r [], .r [(1, ⟨(.c false [] ⟨[], [], [], 0, (.im (eI .i64 v1)), [], 0, [], 0⟩), [], []⟩), (4, ⟨(.h (.gt .no)), [], []⟩), (5, ⟨(.c true [] ⟨[], [], [], 0, (.im (eI .i64 v2)), [], 0, [], 0⟩), [], []⟩), (6, ⟨(.h (.gt .no)), [], []⟩), (7, ⟨(.h (.gt .no)), [], []⟩), (8, ⟨(.h .gf), [], []⟩)], .b false, .r [], .k ⟨[], [], [], [0, 5], [], 0, [], []⟩])
        (r := (.head cc82_0 [.blk 0, .seq cc82_1] (f82L0_S p0 1950))) (obs := [Ct.Ok PX 128 ⟨[(.im (eI .i64 1950)), (.im (eI .i64 1)), (.im (eI .i64 1))], [], 0, (.im (eI .i64 v1)), [], 0⟩, (decide (p0 < v1)) = false, (decide (p0 < v1)) = false, Ct.Ok PX 128 ⟨[(.im (eI .i64 9999)), (.im (eI .i64 12)), (.im (eI .i64 31))], [], 0, (.im (eI .i64 v2)), [], 0⟩, (decide (p0 < v1)) = false, (decide (p0 < v1)) = false, (decide (p0 < v1)) = false, (decide (p0 > (IntKind.wrap .i64 (v2 + 86399)))) = false])
        (by kernel_rfl) ⟨(f128_ok k 1950 1 1 v1 h1), (df h2), (df h2), (f128_ok k 9999 12 31 v2 h3), (df h2), (df h2), (df h2), (df h4), trivial⟩ (fun fn hfn => f82L0_ok fn hfn k p0 1950 _ h)

def f40 (k : Nat) (p0 : Int) : Option (STlv × Bool) :=
  (f82 k p0).bind fun v1 =>
  some ((STlv.mk 0 v1.1 false v1.2.1 []), (v1.2.2 == 0))

theorem f40_ok (k : Nat) : ∀ (p0 : Int) (r : STlv × Bool), f40 k p0 = some r → Ct.Ok PX 40 ⟨[(.im (eI .i64 p0))], [], 0, (.tup [(.im (.st [(1, (eI .i64 r.1.Class)), (1, (eI .i64 r.1.Tag)), (1, (eB r.1.Made)), (1, (.sl 1 (r.1.Body.map (eI .u8)))), (1, (.sl 5 (r.1.Kids.map eSTlv)))])), (.im (eB r.2))]), [], 0⟩ := by
  intro p0 r h
  unfold f40 at h
  obtain ⟨v1, h1, h⟩ := bnd h
  replace h := Option.some.inj h; subst h
  exact Ct.ofWalk hT hm F40 (by kernel_rfl) (n := 1000) (ds := [.r [], .r [(1, ⟨(.c false [] ⟨[], [], [], 0, (.tup [(.im (eI .i64 v1.1)), (.im (.sl 1 (v1.2.1.map (eI .u8)))), (.im (eI .i64 v1.2.2))]), [], 0, [], 1⟩), [], []⟩)], .r [], .k ⟨[], [], [], [], [], 0, [(0, (.s [(.s [.k, .k, .k, .k, (.n 5)])]))], []⟩])
    (r := (.fin (.tup [(.im (.st [(1, (eI .i64 0)), (1, (eI .i64 v1.1)), (1, (eB false)), (1, (.sl 1 (v1.2.1.map (eI .u8)))), (1, (.sl 5 []))])), (.im (eB (v1.2.2 == 0)))]) [] 0)) (obs := [Ct.Ok PX 82 ⟨[(.im (eI .i64 p0))], [], 0, (.tup [(.im (eI .i64 v1.1)), (.im (.sl 1 (v1.2.1.map (eI .u8)))), (.im (eI .i64 v1.2.2))]), [], 0⟩])
    (by kernel_rfl) ⟨(f82_ok k p0 v1 h1), trivial⟩ (fun fn hfn => ⟨rfl, rfl, rfl⟩)
end Go.Proofs.Tryd.E
end

section
namespace Go.Proofs.Tryd.E
open Go Go.Eng
set_option maxRecDepth 100000
set_option linter.unusedVariables false
def f86L0_S (p0 : (List Int)) (x1 : Int) : S := ⟨[(0, (.im (.sl 1 (p0.map (eI .u8))))), (4, (.im (eI .i64 x1)))], [], 0⟩

def f86L0 : Nat → (List Int) → Int → Option ((List Int) × Int)
  | 0, _, _ => none
  | k + 1, p0, x1 =>
    if x1 < (p0.length : Int) then (
     (rd p0 x1).bind fun v1 =>
     if v1 = 0 then (
      f86L0 k p0 (IntKind.wrap .i64 (x1 + 1)))
     else (
      (sl p0 x1 (p0.length : Int)).bind fun v2 =>
      (ap 1 [] v2).bind fun v3 =>
      if (v3.length : Int) > 64 then (
       some ([], 2))
      else (
       if (v3.length : Int) = 0 then (
        (ap 1 [0] v3).bind fun v4 =>
        some (v4, 0))
       else (
        (rd v3 0).bind fun v4 =>
        if v4 > 127 then (
         (ap 1 [0] v3).bind fun v5 =>
         some (v5, 0))
        else (
         some (v3, 0))))))
    else (
     (sl p0 x1 (p0.length : Int)).bind fun v1 =>
     (ap 1 [] v1).bind fun v2 =>
     if (v2.length : Int) > 64 then (
      some ([], 2))
     else (
      if (v2.length : Int) = 0 then (
       (ap 1 [0] v2).bind fun v3 =>
       some (v3, 0))
      else (
       (rd v2 0).bind fun v3 =>
       if v3 > 127 then (
        (ap 1 [0] v2).bind fun v4 =>
        some (v4, 0))
       else (
        some (v2, 0)))))

def f86L0_P (k : Nat) : Prop := ∀ (fn : Func) (_ : fn.results = ([.t 2, .t 3].map Rv.var).toArray), ∀ (p0 : (List Int)) (x1 : Int) (r : (List Int) × Int), f86L0 k p0 x1 = some r → LH PX ⟨fn, 40, 0, (.tup [(.im (.sl 1 (r.1.map (eI .u8)))), (.im (eI .i64 r.2))]), [], 0⟩ cc86_0 [.blk 0, .seq cc86_1] (f86L0_S p0 x1)

theorem f86L0_step (k : Nat) (ih_f86L0 : f86L0_P k) : f86L0_P (k + 1) := by
  intro fn hfn p0 x1 r h
  rw [f86L0] at h
  by_cases h1 : x1 < (p0.length : Int)
  · rw [if_pos h1] at h
    obtain ⟨v1, h2, h⟩ := bnd h
    by_cases h3 : v1 = 0
    · rw [if_pos h3] at h
      exact LH.round hT hm hfn (n := 1000) (ds := [.r [(2, ⟨(.h (.int (p0.length : Int))), [], []⟩), (5, ⟨(.h (.gt .no)), [], []⟩), (6, ⟨(.h (.gt .no)), [], []⟩), (7, ⟨(.h (.gt (.iv (eI .u8 v1)))), [], []⟩), (8, ⟨(.h (.gt .no)), [], []⟩), (9, ⟨(.h (.gt .no)), [], []⟩), (10, ⟨(.h (.gt .no)), [], []⟩)], .b true, .r [], .k ⟨[], [], [], [0, 4], [], 0, [], []⟩])
        (r := (.head cc86_0 [.blk 0, .seq cc86_1] (f86L0_S p0 (IntKind.wrap .i64 (x1 + 1))))) (obs := [((p0.map (eI .u8)).length : Int) = (p0.length : Int), (decide (x1 < (p0.length : Int))) = true, (decide (x1 < (p0.length : Int))) = true, (decide (x1 < (p0.length : Int))) = true, 0 ≤ x1, (p0.map (eI .u8))[(x1).toNat]? = some (eI .u8 v1), (decide (x1 < (p0.length : Int))) = true, (decide (x1 < (p0.length : Int))) = true, (decide (x1 < (p0.length : Int))) = true, (v1 == 0) = true])
        (by kernel_rfl) ⟨(len_m (eI .u8) _), (dt h1), (dt h1), (dt h1), (rd_nn h2), (rd_map (eI .u8) h2), (dt h1), (dt h1), (dt h1), (bt h3), trivial⟩ (ih_f86L0 fn hfn p0 (IntKind.wrap .i64 (x1 + 1)) _ h)
    · rw [if_neg h3] at h
      obtain ⟨v2, h4, h⟩ := bnd h
      obtain ⟨v3, h5, h⟩ := bnd h
      by_cases h6 : (v3.length : Int) > 64
      · rw [if_pos h6] at h
        replace h := Option.some.inj h; subst h
        exact LH.round hT hm hfn (n := 1000) (ds := [.r [(2, ⟨(.h (.int (p0.length : Int))), [], []⟩), (5, ⟨(.h (.gt .no)), [], []⟩), (6, ⟨(.h (.gt .no)), [], []⟩), (7, ⟨(.h (.gt (.iv (eI .u8 v1)))), [], []⟩), (8, ⟨(.h (.gt .no)), [], []⟩), (9, ⟨(.h (.gt .no)), [], []⟩), (10, ⟨(.h (.gt .no)), [], []⟩)], .b false, .r [(3, ⟨(.h (.ivs (v2.map (eI .u8)))), [], []⟩), (4, ⟨(.h (.ivs (v3.map (eI .u8)))), [], []⟩)], .r [(1, ⟨(.h (.int (v3.length : Int))), [], []⟩)], .b true, .r [], .k ⟨[], [], [], [], [], 0, [(0, (.s [(.n 1)]))], []⟩])
          (r := (.fin (.tup [(.im (.sl 1 [])), (.im (eI .i64 2))]) [] 0)) (obs := [((p0.map (eI .u8)).length : Int) = (p0.length : Int), (decide (x1 < (p0.length : Int))) = true, (decide (x1 < (p0.length : Int))) = true, (decide (x1 < (p0.length : Int))) = true, 0 ≤ x1, (p0.map (eI .u8))[(x1).toNat]? = some (eI .u8 v1), (decide (x1 < (p0.length : Int))) = true, (decide (x1 < (p0.length : Int))) = true, (decide (x1 < (p0.length : Int))) = true, (v1 == 0) = false, (0 : Int) ≤ x1, (x1 : Int) ≤ ((p0.map (eI .u8)).length : Int), ((p0.map (eI .u8)).length : Int) ≤ ((p0.map (eI .u8)).length : Int), ((p0.map (eI .u8)).drop (x1 : Int).toNat).take ((((p0.map (eI .u8)).length : Int) : Int).toNat - (x1 : Int).toNat) = (v2.map (eI .u8)), [] ++ (v2.map (eI .u8)) = (v3.map (eI .u8)), (v3.map (eI .u8)).length * 1 ≤ 140737488355328, (v3.map (eI .u8)).length ≤ 9223372036854775807, ((v3.map (eI .u8)).length : Int) = (v3.length : Int), (decide ((v3.length : Int) > 64)) = true])
          (by kernel_rfl) ⟨(len_m (eI .u8) _), (dt h1), (dt h1), (dt h1), (rd_nn h2), (rd_map (eI .u8) h2), (dt h1), (dt h1), (dt h1), (bf h3), (sl_ok h4).1, (by have q := (sl_ok h4).2.1; simpa using q), (Int.le_refl _), (by have q := sl_map (eI .u8) h4; simpa using q), (ap_map (eI .u8) h5), (ap_b (eI .u8) h5), (ap_n (eI .u8) h5), (len_m (eI .u8) _), (dt h6), trivial⟩ ⟨rfl, rfl, rfl⟩
      · rw [if_neg h6] at h
        by_cases h7 : (v3.length : Int) = 0
        · rw [if_pos h7] at h
          obtain ⟨v4, h8, h⟩ := bnd h
          replace h := Option.some.inj h; subst h
          exact LH.round hT hm hfn (n := 1000) (ds := [.r [(2, ⟨(.h (.int (p0.length : Int))), [], []⟩), (5, ⟨(.h (.gt .no)), [], []⟩), (6, ⟨(.h (.gt .no)), [], []⟩), (7, ⟨(.h (.gt (.iv (eI .u8 v1)))), [], []⟩), (8, ⟨(.h (.gt .no)), [], []⟩), (9, ⟨(.h (.gt .no)), [], []⟩), (10, ⟨(.h (.gt .no)), [], []⟩)], .b false, .r [(3, ⟨(.h (.ivs (v2.map (eI .u8)))), [], []⟩), (4, ⟨(.h (.ivs (v3.map (eI .u8)))), [], []⟩)], .r [(1, ⟨(.h (.int (v3.length : Int))), [], []⟩)], .b false, .r [(1, ⟨(.h (.int (v3.length : Int))), [], []⟩), (4, ⟨(.h .gf), [], []⟩), (5, ⟨(.h .gf), [], []⟩), (6, ⟨(.h .gf), [], []⟩), (7, ⟨(.h .gf), [], []⟩), (8, ⟨(.h (.gt .no)), [], []⟩)], .bc true, .r [(2, ⟨(.h (.ivs (v4.map (eI .u8)))), [], []⟩)], .k ⟨[], [], [3], [], [], 0, [], []⟩])
            (r := (.fin (.tup [(.im (.sl 1 (v4.map (eI .u8)))), (.im (eI .i64 0))]) [] 0)) (obs := [((p0.map (eI .u8)).length : Int) = (p0.length : Int), (decide (x1 < (p0.length : Int))) = true, (decide (x1 < (p0.length : Int))) = true, (decide (x1 < (p0.length : Int))) = true, 0 ≤ x1, (p0.map (eI .u8))[(x1).toNat]? = some (eI .u8 v1), (decide (x1 < (p0.length : Int))) = true, (decide (x1 < (p0.length : Int))) = true, (decide (x1 < (p0.length : Int))) = true, (v1 == 0) = false, (0 : Int) ≤ x1, (x1 : Int) ≤ ((p0.map (eI .u8)).length : Int), ((p0.map (eI .u8)).length : Int) ≤ ((p0.map (eI .u8)).length : Int), ((p0.map (eI .u8)).drop (x1 : Int).toNat).take ((((p0.map (eI .u8)).length : Int) : Int).toNat - (x1 : Int).toNat) = (v2.map (eI .u8)), [] ++ (v2.map (eI .u8)) = (v3.map (eI .u8)), (v3.map (eI .u8)).length * 1 ≤ 140737488355328, (v3.map (eI .u8)).length ≤ 9223372036854775807, ((v3.map (eI .u8)).length : Int) = (v3.length : Int), (decide ((v3.length : Int) > 64)) = false, ((v3.map (eI .u8)).length : Int) = (v3.length : Int), ((v3.length : Int) == 0) = !false, ((v3.length : Int) == 0) = !false, ((v3.length : Int) == 0) = !false, ((v3.length : Int) == 0) = !false, ((v3.length : Int) == 0) = true, [(eI .u8 0)] ++ (v3.map (eI .u8)) = (v4.map (eI .u8)), (v4.map (eI .u8)).length * 1 ≤ 140737488355328, (v4.map (eI .u8)).length ≤ 9223372036854775807])
            (by kernel_rfl) ⟨(len_m (eI .u8) _), (dt h1), (dt h1), (dt h1), (rd_nn h2), (rd_map (eI .u8) h2), (dt h1), (dt h1), (dt h1), (bf h3), (sl_ok h4).1, (by have q := (sl_ok h4).2.1; simpa using q), (Int.le_refl _), (by have q := sl_map (eI .u8) h4; simpa using q), (ap_map (eI .u8) h5), (ap_b (eI .u8) h5), (ap_n (eI .u8) h5), (len_m (eI .u8) _), (df h6), (len_m (eI .u8) _), (bt h7), (bt h7), (bt h7), (bt h7), (bt h7), (ap_map (eI .u8) h8), (ap_b (eI .u8) h8), (ap_n (eI .u8) h8), trivial⟩ ⟨rfl, rfl, rfl⟩
        · rw [if_neg h7] at h
          obtain ⟨v4, h8, h⟩ := bnd h
          by_cases h9 : v4 > 127
          · rw [if_pos h9] at h
            obtain ⟨v5, h10, h⟩ := bnd h
            replace h := Option.some.inj h; subst h
            exact LH.round hT hm hfn (n := 1000) (ds := [.r [(2, ⟨(.h (.int (p0.length : Int))), [], []⟩), (5, ⟨(.h (.gt .no)), [], []⟩), (6, ⟨(.h (.gt .no)), [], []⟩), (7, ⟨(.h (.gt (.iv (eI .u8 v1)))), [], []⟩), (8, ⟨(.h (.gt .no)), [], []⟩), (9, ⟨(.h (.gt .no)), [], []⟩), (10, ⟨(.h (.gt .no)), [], []⟩)], .b false, .r [(3, ⟨(.h (.ivs (v2.map (eI .u8)))), [], []⟩), (4, ⟨(.h (.ivs (v3.map (eI .u8)))), [], []⟩)], .r [(1, ⟨(.h (.int (v3.length : Int))), [], []⟩)], .b false, .r [(1, ⟨(.h (.int (v3.length : Int))), [], []⟩), (4, ⟨(.h (.gt .no)), [], []⟩), (5, ⟨(.h (.gt .no)), [], []⟩), (6, ⟨(.h (.gt (.iv (eI .u8 v4)))), [], []⟩), (7, ⟨(.h (.gt .no)), [], []⟩), (8, ⟨(.h .gf), [], []⟩)], .b true, .r [(2, ⟨(.h (.ivs (v5.map (eI .u8)))), [], []⟩)], .k ⟨[], [], [3], [], [], 0, [], []⟩])
              (r := (.fin (.tup [(.im (.sl 1 (v5.map (eI .u8)))), (.im (eI .i64 0))]) [] 0)) (obs := [((p0.map (eI .u8)).length : Int) = (p0.length : Int), (decide (x1 < (p0.length : Int))) = true, (decide (x1 < (p0.length : Int))) = true, (decide (x1 < (p0.length : Int))) = true, 0 ≤ x1, (p0.map (eI .u8))[(x1).toNat]? = some (eI .u8 v1), (decide (x1 < (p0.length : Int))) = true, (decide (x1 < (p0.length : Int))) = true, (decide (x1 < (p0.length : Int))) = true, (v1 == 0) = false, (0 : Int) ≤ x1, (x1 : Int) ≤ ((p0.map (eI .u8)).length : Int), ((p0.map (eI .u8)).length : Int) ≤ ((p0.map (eI .u8)).length : Int), ((p0.map (eI .u8)).drop (x1 : Int).toNat).take ((((p0.map (eI .u8)).length : Int) : Int).toNat - (x1 : Int).toNat) = (v2.map (eI .u8)), [] ++ (v2.map (eI .u8)) = (v3.map (eI .u8)), (v3.map (eI .u8)).length * 1 ≤ 140737488355328, (v3.map (eI .u8)).length ≤ 9223372036854775807, ((v3.map (eI .u8)).length : Int) = (v3.length : Int), (decide ((v3.length : Int) > 64)) = false, ((v3.map (eI .u8)).length : Int) = (v3.length : Int), ((v3.length : Int) == 0) = false, ((v3.length : Int) == 0) = false, 0 ≤ 0, 0 < (v3.map (eI .u8)).length, ((v3.length : Int) == 0) = false, (v3.map (eI .u8))[0]? = some (eI .u8 v4), ((v3.length : Int) == 0) = false, ((v3.length : Int) == 0) = false, (decide (v4 > 127)) = true, [(eI .u8 0)] ++ (v3.map (eI .u8)) = (v5.map (eI .u8)), (v5.map (eI .u8)).length * 1 ≤ 140737488355328, (v5.map (eI .u8)).length ≤ 9223372036854775807])
              (by kernel_rfl) ⟨(len_m (eI .u8) _), (dt h1), (dt h1), (dt h1), (rd_nn h2), (rd_map (eI .u8) h2), (dt h1), (dt h1), (dt h1), (bf h3), (sl_ok h4).1, (by have q := (sl_ok h4).2.1; simpa using q), (Int.le_refl _), (by have q := sl_map (eI .u8) h4; simpa using q), (ap_map (eI .u8) h5), (ap_b (eI .u8) h5), (ap_n (eI .u8) h5), (len_m (eI .u8) _), (df h6), (len_m (eI .u8) _), (bf h7), (bf h7), (rd_nn h8), (rd_ltm (eI .u8) h8), (bf h7), (rd_map (eI .u8) h8), (bf h7), (bf h7), (dt h9), (ap_map (eI .u8) h10), (ap_b (eI .u8) h10), (ap_n (eI .u8) h10), trivial⟩ ⟨rfl, rfl, rfl⟩
          · rw [if_neg h9] at h
            replace h := Option.some.inj h; subst h
            exact LH.round hT hm hfn (n := 1000) (ds := [.r [(2, ⟨(.h (.int (p0.length : Int))), [], []⟩), (5, ⟨(.h (.gt .no)), [], []⟩), (6, ⟨(.h (.gt .no)), [], []⟩), (7, ⟨(.h (.gt (.iv (eI .u8 v1)))), [], []⟩), (8, ⟨(.h (.gt .no)), [], []⟩), (9, ⟨(.h (.gt .no)), [], []⟩), (10, ⟨(.h (.gt .no)), [], []⟩)], .b false, .r [(3, ⟨(.h (.ivs (v2.map (eI .u8)))), [], []⟩), (4, ⟨(.h (.ivs (v3.map (eI .u8)))), [], []⟩)], .r [(1, ⟨(.h (.int (v3.length : Int))), [], []⟩)], .b false, .r [(1, ⟨(.h (.int (v3.length : Int))), [], []⟩), (4, ⟨(.h (.gt .no)), [], []⟩), (5, ⟨(.h (.gt .no)), [], []⟩), (6, ⟨(.h (.gt (.iv (eI .u8 v4)))), [], []⟩), (7, ⟨(.h (.gt .no)), [], []⟩), (8, ⟨(.h .gf), [], []⟩)], .b false, .r [], .k ⟨[], [], [1], [], [], 0, [], []⟩])
              (r := (.fin (.tup [(.im (.sl 1 (v3.map (eI .u8)))), (.im (eI .i64 0))]) [] 0)) (obs := [((p0.map (eI .u8)).length : Int) = (p0.length : Int), (decide (x1 < (p0.length : Int))) = true, (decide (x1 < (p0.length : Int))) = true, (decide (x1 < (p0.length : Int))) = true, 0 ≤ x1, (p0.map (eI .u8))[(x1).toNat]? = some (eI .u8 v1), (decide (x1 < (p0.length : Int))) = true, (decide (x1 < (p0.length : Int))) = true, (decide (x1 < (p0.length : Int))) = true, (v1 == 0) = false, (0 : Int) ≤ x1, (x1 : Int) ≤ ((p0.map (eI .u8)).length : Int), ((p0.map (eI .u8)).length : Int) ≤ ((p0.map (eI .u8)).length : Int), ((p0.map (eI .u8)).drop (x1 : Int).toNat).take ((((p0.map (eI .u8)).length : Int) : Int).toNat - (x1 : Int).toNat) = (v2.map (eI .u8)), [] ++ (v2.map (eI .u8)) = (v3.map (eI .u8)), (v3.map (eI .u8)).length * 1 ≤ 140737488355328, (v3.map (eI .u8)).length ≤ 9223372036854775807, ((v3.map (eI .u8)).length : Int) = (v3.length : Int), (decide ((v3.length : Int) > 64)) = false, ((v3.map (eI .u8)).length : Int) = (v3.length : Int), ((v3.length : Int) == 0) = false, ((v3.length : Int) == 0) = false, 0 ≤ 0, 0 < (v3.map (eI .u8)).length, ((v3.length : Int) == 0) = false, (v3.map (eI .u8))[0]? = some (eI .u8 v4), ((v3.length : Int) == 0) = false, ((v3.length : Int) == 0) = false, (decide (v4 > 127)) = false])
              (by kernel_rfl) ⟨(len_m (eI .u8) _), (dt h1), (dt h1), (dt h1), (rd_nn h2), (rd_map (eI .u8) h2), (dt h1), (dt h1), (dt h1), (bf h3), (sl_ok h4).1, (by have q := (sl_ok h4).2.1; simpa using q), (Int.le_refl _), (by have q := sl_map (eI .u8) h4; simpa using q), (ap_map (eI .u8) h5), (ap_b (eI .u8) h5), (ap_n (eI .u8) h5), (len_m (eI .u8) _), (df h6), (len_m (eI .u8) _), (bf h7), (bf h7), (rd_nn h8), (rd_ltm (eI .u8) h8), (bf h7), (rd_map (eI .u8) h8), (bf h7), (bf h7), (df h9), trivial⟩ ⟨rfl, rfl, rfl⟩
  · rw [if_neg h1] at h
    obtain ⟨v1, h2, h⟩ := bnd h
    obtain ⟨v2, h3, h⟩ := bnd h
    by_cases h4 : (v2.length : Int) > 64
    · rw [if_pos h4] at h
      replace h := Option.some.inj h; subst h
      exact LH.round hT hm hfn (n := 1000) (ds := [.r [(2, ⟨(.h (.int (p0.length : Int))), [], []⟩), (5, ⟨(.h .gf), [], []⟩), (6, ⟨(.h .gf), [], []⟩), (7, ⟨(.h .gf), [], []⟩), (8, ⟨(.h .gf), [], []⟩), (9, ⟨(.h .gf), [], []⟩), (10, ⟨(.h .gf), [], []⟩)], .bc false, .r [(3, ⟨(.h (.ivs (v1.map (eI .u8)))), [], []⟩), (4, ⟨(.h (.ivs (v2.map (eI .u8)))), [], []⟩)], .r [(1, ⟨(.h (.int (v2.length : Int))), [], []⟩)], .b true, .r [], .k ⟨[], [], [], [], [], 0, [(0, (.s [(.n 1)]))], []⟩])
        (r := (.fin (.tup [(.im (.sl 1 [])), (.im (eI .i64 2))]) [] 0)) (obs := [((p0.map (eI .u8)).length : Int) = (p0.length : Int), (decide (x1 < (p0.length : Int))) = !true, (decide (x1 < (p0.length : Int))) = !true, (decide (x1 < (p0.length : Int))) = !true, (decide (x1 < (p0.length : Int))) = !true, (decide (x1 < (p0.length : Int))) = !true, (decide (x1 < (p0.length : Int))) = false, (0 : Int) ≤ x1, (x1 : Int) ≤ ((p0.map (eI .u8)).length : Int), ((p0.map (eI .u8)).length : Int) ≤ ((p0.map (eI .u8)).length : Int), ((p0.map (eI .u8)).drop (x1 : Int).toNat).take ((((p0.map (eI .u8)).length : Int) : Int).toNat - (x1 : Int).toNat) = (v1.map (eI .u8)), [] ++ (v1.map (eI .u8)) = (v2.map (eI .u8)), (v2.map (eI .u8)).length * 1 ≤ 140737488355328, (v2.map (eI .u8)).length ≤ 9223372036854775807, ((v2.map (eI .u8)).length : Int) = (v2.length : Int), (decide ((v2.length : Int) > 64)) = true])
        (by kernel_rfl) ⟨(len_m (eI .u8) _), (df h1), (df h1), (df h1), (df h1), (df h1), (df h1), (sl_ok h2).1, (by have q := (sl_ok h2).2.1; simpa using q), (Int.le_refl _), (by have q := sl_map (eI .u8) h2; simpa using q), (ap_map (eI .u8) h3), (ap_b (eI .u8) h3), (ap_n (eI .u8) h3), (len_m (eI .u8) _), (dt h4), trivial⟩ ⟨rfl, rfl, rfl⟩
    · rw [if_neg h4] at h
      by_cases h5 : (v2.length : Int) = 0
      · rw [if_pos h5] at h
        obtain ⟨v3, h6, h⟩ := bnd h
        replace h := Option.some.inj h; subst h
        exact LH.round hT hm hfn (n := 1000) (ds := [.r [(2, ⟨(.h (.int (p0.length : Int))), [], []⟩), (5, ⟨(.h .gf), [], []⟩), (6, ⟨(.h .gf), [], []⟩), (7, ⟨(.h .gf), [], []⟩), (8, ⟨(.h .gf), [], []⟩), (9, ⟨(.h .gf), [], []⟩), (10, ⟨(.h .gf), [], []⟩)], .bc false, .r [(3, ⟨(.h (.ivs (v1.map (eI .u8)))), [], []⟩), (4, ⟨(.h (.ivs (v2.map (eI .u8)))), [], []⟩)], .r [(1, ⟨(.h (.int (v2.length : Int))), [], []⟩)], .b false, .r [(1, ⟨(.h (.int (v2.length : Int))), [], []⟩), (4, ⟨(.h .gf), [], []⟩), (5, ⟨(.h .gf), [], []⟩), (6, ⟨(.h .gf), [], []⟩), (7, ⟨(.h .gf), [], []⟩), (8, ⟨(.h (.gt .no)), [], []⟩)], .bc true, .r [(2, ⟨(.h (.ivs (v3.map (eI .u8)))), [], []⟩)], .k ⟨[], [], [3], [], [], 0, [], []⟩])
          (r := (.fin (.tup [(.im (.sl 1 (v3.map (eI .u8)))), (.im (eI .i64 0))]) [] 0)) (obs := [((p0.map (eI .u8)).length : Int) = (p0.length : Int), (decide (x1 < (p0.length : Int))) = !true, (decide (x1 < (p0.length : Int))) = !true, (decide (x1 < (p0.length : Int))) = !true, (decide (x1 < (p0.length : Int))) = !true, (decide (x1 < (p0.length : Int))) = !true, (decide (x1 < (p0.length : Int))) = false, (0 : Int) ≤ x1, (x1 : Int) ≤ ((p0.map (eI .u8)).length : Int), ((p0.map (eI .u8)).length : Int) ≤ ((p0.map (eI .u8)).length : Int), ((p0.map (eI .u8)).drop (x1 : Int).toNat).take ((((p0.map (eI .u8)).length : Int) : Int).toNat - (x1 : Int).toNat) = (v1.map (eI .u8)), [] ++ (v1.map (eI .u8)) = (v2.map (eI .u8)), (v2.map (eI .u8)).length * 1 ≤ 140737488355328, (v2.map (eI .u8)).length ≤ 9223372036854775807, ((v2.map (eI .u8)).length : Int) = (v2.length : Int), (decide ((v2.length : Int) > 64)) = false, ((v2.map (eI .u8)).length : Int) = (v2.length : Int), ((v2.length : Int) == 0) = !false, ((v2.length : Int) == 0) = !false, ((v2.length : Int) == 0) = !false, ((v2.length : Int) == 0) = !false, ((v2.length : Int) == 0) = true, [(eI .u8 0)] ++ (v2.map (eI .u8)) = (v3.map (eI .u8)), (v3.map (eI .u8)).length * 1 ≤ 140737488355328, (v3.map (eI .u8)).length ≤ 9223372036854775807])
          (by kernel_rfl) ⟨(len_m (eI .u8) _), (df h1), (df h1), (df h1), (df h1), (df h1), (df h1), (sl_ok h2).1, (by have q := (sl_ok h2).2.1; simpa using q), (Int.le_refl _), (by have q := sl_map (eI .u8) h2; simpa using q), (ap_map (eI .u8) h3), (ap_b (eI .u8) h3), (ap_n (eI .u8) h3), (len_m (eI .u8) _), (df h4), (len_m (eI .u8) _), (bt h5), (bt h5), (bt h5), (bt h5), (bt h5), (ap_map (eI .u8) h6), (ap_b (eI .u8) h6), (ap_n (eI .u8) h6), trivial⟩ ⟨rfl, rfl, rfl⟩
      · rw [if_neg h5] at h
        obtain ⟨v3, h6, h⟩ := bnd h
        by_cases h7 : v3 > 127
        · rw [if_pos h7] at h
          obtain ⟨v4, h8, h⟩ := bnd h
          replace h := Option.some.inj h; subst h
          exact LH.round hT hm hfn (n := 1000) (ds := [.r [(2, ⟨(.h (.int (p0.length : Int))), [], []⟩), (5, ⟨(.h .gf), [], []⟩), (6, ⟨(.h .gf), [], []⟩), (7, ⟨(.h .gf), [], []⟩), (8, ⟨(.h .gf), [], []⟩), (9, ⟨(.h .gf), [], []⟩), (10, ⟨(.h .gf), [], []⟩)], .bc false, .r [(3, ⟨(.h (.ivs (v1.map (eI .u8)))), [], []⟩), (4, ⟨(.h (.ivs (v2.map (eI .u8)))), [], []⟩)], .r [(1, ⟨(.h (.int (v2.length : Int))), [], []⟩)], .b false, .r [(1, ⟨(.h (.int (v2.length : Int))), [], []⟩), (4, ⟨(.h (.gt .no)), [], []⟩), (5, ⟨(.h (.gt .no)), [], []⟩), (6, ⟨(.h (.gt (.iv (eI .u8 v3)))), [], []⟩), (7, ⟨(.h (.gt .no)), [], []⟩), (8, ⟨(.h .gf), [], []⟩)], .b true, .r [(2, ⟨(.h (.ivs (v4.map (eI .u8)))), [], []⟩)], .k ⟨[], [], [3], [], [], 0, [], []⟩])
            (r := (.fin (.tup [(.im (.sl 1 (v4.map (eI .u8)))), (.im (eI .i64 0))]) [] 0)) (obs := [((p0.map (eI .u8)).length : Int) = (p0.length : Int), (decide (x1 < (p0.length : Int))) = !true, (decide (x1 < (p0.length : Int))) = !true, (decide (x1 < (p0.length : Int))) = !true, (decide (x1 < (p0.length : Int))) = !true, (decide (x1 < (p0.length : Int))) = !true, (decide (x1 < (p0.length : Int))) = false, (0 : Int) ≤ x1, (x1 : Int) ≤ ((p0.map (eI .u8)).length : Int), ((p0.map (eI .u8)).length : Int) ≤ ((p0.map (eI .u8)).length : Int), ((p0.map (eI .u8)).drop (x1 : Int).toNat).take ((((p0.map (eI .u8)).length : Int) : Int).toNat - (x1 : Int).toNat) = (v1.map (eI .u8)), [] ++ (v1.map (eI .u8)) = (v2.map (eI .u8)), (v2.map (eI .u8)).length * 1 ≤ 140737488355328, (v2.map (eI .u8)).length ≤ 9223372036854775807, ((v2.map (eI .u8)).length : Int) = (v2.length : Int), (decide ((v2.length : Int) > 64)) = false, ((v2.map (eI .u8)).length : Int) = (v2.length : Int), ((v2.length : Int) == 0) = false, ((v2.length : Int) == 0) = false, 0 ≤ 0, 0 < (v2.map (eI .u8)).length, ((v2.length : Int) == 0) = false, (v2.map (eI .u8))[0]? = some (eI .u8 v3), ((v2.length : Int) == 0) = false, ((v2.length : Int) == 0) = false, (decide (v3 > 127)) = true, [(eI .u8 0)] ++ (v2.map (eI .u8)) = (v4.map (eI .u8)), (v4.map (eI .u8)).length * 1 ≤ 140737488355328, (v4.map (eI .u8)).length ≤ 9223372036854775807])
            (by kernel_rfl) ⟨(len_m (eI .u8) _), (df h1), (df h1), (df h1), (df h1), (df h1), (df h1), (sl_ok h2).1, (by have q := (sl_ok h2).2.1; simpa using q), (Int.le_refl _), (by have q := sl_map (eI .u8) h2; simpa using q), (ap_map (eI .u8) h3), (ap_b (eI .u8) h3), (ap_n (eI .u8) h3), (len_m (eI .u8) _), (df h4), (len_m (eI .u8) _), (bf h5), (bf h5), (rd_nn h6), (rd_ltm (eI .u8) h6), (bf h5), (rd_map (eI .u8) h6), (bf h5), (bf h5), (dt h7), (ap_map (eI .u8) h8), (ap_b (eI .u8) h8), (ap_n (eI .u8) h8), trivial⟩ ⟨rfl, rfl, rfl⟩
        · rw [if_neg h7] at h
          replace h := Option.some.inj h; subst h
          exact LH.round hT hm hfn (n := 1000) (ds := [.r [(2, ⟨(.h (.int (p0.length : Int))), [], []⟩), (5, ⟨(.h .gf), [], []⟩), (6, ⟨(.h .gf), [], []⟩), (7, ⟨(.h .gf), [], []⟩), (8, ⟨(.h .gf), [], []⟩), (9, ⟨(.h .gf), [], []⟩), (10, ⟨(.h .gf), [], []⟩)], .bc false, .r [(3, ⟨(.h (.ivs (v1.map (eI .u8)))), [], []⟩), (4, ⟨(.h (.ivs (v2.map (eI .u8)))), [], []⟩)], .r [(1, ⟨(.h (.int (v2.length : Int))), [], []⟩)], .b false, .r [(1, ⟨(.h (.int (v2.length : Int))), [], []⟩), (4, ⟨(.h (.gt .no)), [], []⟩), (5, ⟨(.h (.gt .no)), [], []⟩), (6, ⟨(.h (.gt (.iv (eI .u8 v3)))), [], []⟩), (7, ⟨(.h (.gt .no)), [], []⟩), (8, ⟨(.h .gf), [], []⟩)], .b false, .r [], .k ⟨[], [], [1], [], [], 0, [], []⟩])
            (r := (.fin (.tup [(.im (.sl 1 (v2.map (eI .u8)))), (.im (eI .i64 0))]) [] 0)) (obs := [((p0.map (eI .u8)).length : Int) = (p0.length : Int), (decide (x1 < (p0.length : Int))) = !true, (decide (x1 < (p0.length : Int))) = !true, (decide (x1 < (p0.length : Int))) = !true, (decide (x1 < (p0.length : Int))) = !true, (decide (x1 < (p0.length : Int))) = !true, (decide (x1 < (p0.length : Int))) = false, (0 : Int) ≤ x1, (x1 : Int) ≤ ((p0.map (eI .u8)).length : Int), ((p0.map (eI .u8)).length : Int) ≤ ((p0.map (eI .u8)).length : Int), ((p0.map (eI .u8)).drop (x1 : Int).toNat).take ((((p0.map (eI .u8)).length : Int) : Int).toNat - (x1 : Int).toNat) = (v1.map (eI .u8)), [] ++ (v1.map (eI .u8)) = (v2.map (eI .u8)), (v2.map (eI .u8)).length * 1 ≤ 140737488355328, (v2.map (eI .u8)).length ≤ 9223372036854775807, ((v2.map (eI .u8)).length : Int) = (v2.length : Int), (decide ((v2.length : Int) > 64)) = false, ((v2.map (eI .u8)).length : Int) = (v2.length : Int), ((v2.length : Int) == 0) = false, ((v2.length : Int) == 0) = false, 0 ≤ 0, 0 < (v2.map (eI .u8)).length, ((v2.length : Int) == 0) = false, (v2.map (eI .u8))[0]? = some (eI .u8 v3), ((v2.length : Int) == 0) = false, ((v2.length : Int) == 0) = false, (decide (v3 > 127)) = false])
            (by kernel_rfl) ⟨(len_m (eI .u8) _), (df h1), (df h1), (df h1), (df h1), (df h1), (df h1), (sl_ok h2).1, (by have q := (sl_ok h2).2.1; simpa using q), (Int.le_refl _), (by have q := sl_map (eI .u8) h2; simpa using q), (ap_map (eI .u8) h3), (ap_b (eI .u8) h3), (ap_n (eI .u8) h3), (len_m (eI .u8) _), (df h4), (len_m (eI .u8) _), (bf h5), (bf h5), (rd_nn h6), (rd_ltm (eI .u8) h6), (bf h5), (rd_map (eI .u8) h6), (bf h5), (bf h5), (df h7), trivial⟩ ⟨rfl, rfl, rfl⟩

theorem f86L0_all : ∀ k, f86L0_P k
  | 0 => (by intro fn hfn _ _ r h; rw [f86L0] at h; cases h)
  | k + 1 => f86L0_step k (f86L0_all k)

theorem f86L0_ok (fn : Func) (hfn : fn.results = ([.t 2, .t 3].map Rv.var).toArray) (k : Nat) : ∀ (p0 : (List Int)) (x1 : Int) (r : (List Int) × Int), f86L0 k p0 x1 = some r → LH PX ⟨fn, 40, 0, (.tup [(.im (.sl 1 (r.1.map (eI .u8)))), (.im (eI .i64 r.2))]), [], 0⟩ cc86_0 [.blk 0, .seq cc86_1] (f86L0_S p0 x1) := (f86L0_all k) fn hfn
end Go.Proofs.Tryd.E
end
