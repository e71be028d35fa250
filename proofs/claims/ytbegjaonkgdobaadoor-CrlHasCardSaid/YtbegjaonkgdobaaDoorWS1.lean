/- What the functions compute, as plain models, and the walks that show it. -/
import Derived.Test.YtbegjaonkgdobaaDoorWE2
import Derived.Test.YtbegjaonkgdobaaDoorProg
import Derived.KernelRfl
set_option linter.unusedVariables false
set_option linter.unusedSimpArgs false
set_option linter.unusedSectionVars false
section
namespace Go.Proofs.Tryd.E
open Go Go.Eng
set_option maxRecDepth 100000
inductive Er where
  | nil
  | code (c : Int)
  | spot (a c : Int)
  deriving DecidableEq
def Er.on {α : Type} (e : Er) (n : α) (c : Int → α) (s : Int → Int → α) : α :=
  match e with
  | .nil => n
  | .code x => c x
  | .spot x y => s x y
def eEr : Er → IV
  | .nil => .v .nilIface
  | .code c => .ifc 40 (eI .i64 c)
  | .spot a c => .ifc 77 (.pim 2 (.st [(1, eI .i64 a), (1, .ifc 40 (eI .i64 c))]))
def eSl {α : Type} (n : Nat) (f : α → IV) (l : List α) : IV := .sl n (l.map f)
def eAr {n : Nat} (k : IntKind) (a : Arr n) : IV := .arr 1 (a.l.map (eI k))
structure SPart where
  Kind : Int
  Text : ByteArray

def eSPart (x : SPart) : IV := .st [(1, (eI .i64 x.Kind)), (1, (eStr x.Text))]

structure SGone where
  Serial : (List Int)
  At : Int

def eSGone (x : SGone) : IV := .st [(1, (.sl 1 (x.Serial.map (eI .u8)))), (1, (eI .i64 x.At))]

structure SSig where
  R : (Arr 6)
  S : (Arr 6)

def eSSig (x : SSig) : IV := .st [(6, (.arr 1 (x.R.l.map (eI .u64)))), (6, (.arr 1 (x.S.l.map (eI .u64))))]

structure SCrl where
  Issuer : (List SPart)
  This : Int
  Next : Int
  Gone : (List SGone)
  Body : (List Int)
  Sig : SSig

def eSCrl (x : SCrl) : IV := .st [(1, (.sl 2 (x.Issuer.map eSPart))), (1, (eI .i64 x.This)), (1, (eI .i64 x.Next)), (1, (.sl 2 (x.Gone.map eSGone))), (1, (.sl 1 (x.Body.map (eI .u8)))), (12, (.st [(6, (.arr 1 (x.Sig.R.l.map (eI .u64)))), (6, (.arr 1 (x.Sig.S.l.map (eI .u64))))]))]

inductive STlv where
  | mk (Class : Int) (Tag : Int) (Made : Bool) (Body : (List Int)) (Kids : (List STlv))

def STlv.Class : STlv → Int | .mk x _ _ _ _ => x

def STlv.Tag : STlv → Int | .mk _ x _ _ _ => x

def STlv.Made : STlv → Bool | .mk _ _ x _ _ => x

def STlv.Body : STlv → (List Int) | .mk _ _ _ x _ => x

def STlv.Kids : STlv → (List STlv) | .mk _ _ _ _ x => x

mutual
def eSTlv : STlv → IV
  | .mk a0 a1 a2 a3 a4 => .st [(1, (eI .i64 a0)), (1, (eI .i64 a1)), (1, (eB a2)), (1, (.sl 1 (a3.map (eI .u8)))), (1, (.sl 5 (eSTlvs a4)))]
def eSTlvs : List STlv → List IV
  | [] => []
  | x :: l => eSTlv x :: eSTlvs l
end

theorem eSTlvs_map : ∀ l : List STlv, eSTlvs l = l.map eSTlv
  | [] => rfl
  | x :: l => by rw [eSTlvs, eSTlvs_map l]; rfl

theorem eSTlv_eq : ∀ x : STlv, eSTlv x = .st [(1, (eI .i64 x.Class)), (1, (eI .i64 x.Tag)), (1, (eB x.Made)), (1, (.sl 1 (x.Body.map (eI .u8)))), (1, (.sl 5 (x.Kids.map eSTlv)))]
  | .mk _ _ _ _ _ => by rw [eSTlv]; simp only [eSTlvs_map]; rfl

structure SReader where
  b : (List Int)

def eSReader (x : SReader) : IV := .st [(1, (.sl 1 (x.b.map (eI .u8))))]

def T : List (Nat × TyI) := [(2, ⟨(.int .i64), 1, (.v (.int .i64 0))⟩),
  (3, ⟨(.int .i64), 1, (.v (.int .i64 0))⟩),
  (4, ⟨.bool, 1, (.v (.bool false))⟩),
  (5, ⟨(.int .u8), 1, (.v (.int .u8 0))⟩),
  (9, ⟨.str, 1, (.v (.string ⟨#[]⟩))⟩),
  (22, ⟨(.sl 5 1 1), 1, (.v (.slice none 0 0))⟩),
  (24, ⟨(.int .u64), 1, (.v (.int .u64 0))⟩),
  (28, ⟨(.st [(0, 6), (6, 6)]), 12, (.st [(6, (.arr 1 [(.v (.int .u64 0)), (.v (.int .u64 0)), (.v (.int .u64 0)), (.v (.int .u64 0)), (.v (.int .u64 0)), (.v (.int .u64 0))])), (6, (.arr 1 [(.v (.int .u64 0)), (.v (.int .u64 0)), (.v (.int .u64 0)), (.v (.int .u64 0)), (.v (.int .u64 0)), (.v (.int .u64 0))]))])⟩),
  (30, ⟨.ifc, 1, (.v .nilIface)⟩),
  (33, ⟨(.sl 35 5 72), 1, (.v (.slice none 0 0))⟩),
  (35, ⟨(.st [(0, 1), (1, 1), (2, 1), (3, 1), (4, 1)]), 5, (.st [(1, (.v (.int .i64 0))), (1, (.v (.int .i64 0))), (1, (.v (.bool false))), (1, (.v (.slice none 0 0))), (1, (.v (.slice none 0 0)))])⟩),
  (40, ⟨(.int .i64), 1, (.v (.int .i64 0))⟩),
  (43, ⟨(.sl 24 1 8), 1, (.v (.slice none 0 0))⟩),
  (51, ⟨(.sl 136 2 24), 1, (.v (.slice none 0 0))⟩),
  (52, ⟨(.sl 61 2 32), 1, (.v (.slice none 0 0))⟩),
  (54, ⟨(.st [(0, 1), (1, 1), (2, 1), (3, 1), (4, 1), (5, 12)]), 17, (.st [(1, (.v (.slice none 0 0))), (1, (.v (.int .i64 0))), (1, (.v (.int .i64 0))), (1, (.v (.slice none 0 0))), (1, (.v (.slice none 0 0))), (12, (.st [(6, (.arr 1 [(.v (.int .u64 0)), (.v (.int .u64 0)), (.v (.int .u64 0)), (.v (.int .u64 0)), (.v (.int .u64 0)), (.v (.int .u64 0))])), (6, (.arr 1 [(.v (.int .u64 0)), (.v (.int .u64 0)), (.v (.int .u64 0)), (.v (.int .u64 0)), (.v (.int .u64 0)), (.v (.int .u64 0))]))]))])⟩),
  (61, ⟨(.st [(0, 1), (1, 1)]), 2, (.st [(1, (.v (.slice none 0 0))), (1, (.v (.int .i64 0)))])⟩),
  (77, ⟨.ptr, 1, (.v (.pointer none))⟩),
  (82, ⟨(.st [(0, 1), (1, 1)]), 2, (.st [(1, (.v (.int .i64 0))), (1, (.v .nilIface))])⟩),
  (100, ⟨.oth, 1, (.v .nilFunc)⟩),
  (112, ⟨(.st [(0, 1)]), 1, (.st [(1, (.v (.slice none 0 0)))])⟩),
  (136, ⟨(.st [(0, 1), (1, 1)]), 2, (.st [(1, (.v (.int .i64 0))), (1, (.v (.string ⟨#[]⟩)))])⟩),
  (152, ⟨.oth, 1, (.v .nilFunc)⟩),
  (198, ⟨.oth, 1, (.v .nilFunc)⟩),
  (200, ⟨.oth, 1, (.v .nilFunc)⟩),
  (204, ⟨(.sl 3 1 8), 1, (.v (.slice none 0 0))⟩),
  (226, ⟨.oth, 1, (.v .nilFunc)⟩)]

def cc5_0 : CC :=
 (.seq (.seq (.reg [⟨(some 10), none, (.mv (.tmp 7))⟩,
  ⟨(some 11), none, (.fld 3 3 1 (.tmp 2))⟩,
  ⟨(some 12), none, (.ld 1 false (.tmp 11))⟩,
  ⟨(some 13), none, (.len (.tmp 12))⟩,
  ⟨(some 14), none, (.bin .lss (.tmp 10) (.tmp 13))⟩])
 (.cond (.tmp 14) .skip
 (.exit 0)))
 (.seq (.blk 1 (.drw [⟨(some 17), none, (.mv (.tmp 6))⟩,
  ⟨(some 18), none, (.mv (.tmp 17))⟩,
  ⟨(some 19), (some (some 18, false)), (.fld 3 3 1 (.tmp 2))⟩,
  ⟨(some 20), (some (some 18, false)), (.ld 1 false (.tmp 19))⟩,
  ⟨(some 21), (some (some 18, false)), (.mv (.tmp 7))⟩,
  ⟨(some 22), (some (some 18, false)), (.idxS 2 (.tmp 20) (.tmp 21))⟩,
  ⟨(some 23), (some (some 18, false)), (.fld 0 0 1 (.tmp 22))⟩,
  ⟨(some 24), (some (some 18, false)), (.ld 1 false (.tmp 23))⟩,
  ⟨(some 25), (some (some 18, false)), (.cvStr (.tmp 24))⟩,
  ⟨(some 26), (some (some 18, false)), (.mv (.tmp 1))⟩,
  ⟨(some 27), (some (some 18, false)), (.cvStr (.tmp 26))⟩,
  ⟨(some 28), (some (some 18, false)), (.bin .eql (.tmp 25) (.tmp 27))⟩,
  ⟨(some 29), none, (.pick (.tmp 18) (.const (Value.bool true)) (.tmp 28))⟩,
  ⟨(some 6), none, (.mv (.tmp 29))⟩] [[], [0], [1], [2, 1], [1], [3, 4, 1], [5, 1], [6, 1], [7, 1], [1], [9, 1], [8, 10, 1], [1, 11], [12, 1, 0, 1, 2, 3, 4, 5, 6, 7, 8, 9, 10, 11, 12]]))
 (.reg [⟨(some 15), none, (.mv (.tmp 7))⟩,
  ⟨(some 16), none, (.bin .add (.tmp 15) (.const (Value.int .i64 1)))⟩,
  ⟨(some 7), none, (.mv (.tmp 16))⟩])))

def cc5_1 : CC :=
 (.seq (.reg [⟨(some 30), none, (.bsl 61 2 0 (.st [(1, (.v (.slice none 0 0))), (1, (.v (.int .i64 0)))]) [])⟩,
  ⟨(some 31), none, (.fld 3 3 1 (.tmp 2))⟩,
  ⟨(some 32), none, (.ld 1 false (.tmp 31))⟩,
  ⟨(some 33), none, (.app 61 2 32 (.tmp 30) (.tmp 32))⟩,
  ⟨(some 8), none, (.mv (.tmp 33))⟩])
 (.seq (.reg [⟨(some 34), none, (.mv (.tmp 8))⟩,
  ⟨(some 35), none, (.mv (.tmp 1))⟩,
  ⟨(some 36), none, (.bst [(1, (.v (.slice none 0 0))), (1, (.v (.int .i64 0)))] [(0, (.tmp 35))])⟩,
  ⟨(some 37), none, (.bsl 61 2 1 (.st [(1, (.v (.slice none 0 0))), (1, (.v (.int .i64 0)))]) [(0, (.tmp 36))])⟩,
  ⟨(some 38), none, (.app 61 2 32 (.tmp 34) (.tmp 37))⟩,
  ⟨(some 8), none, (.mv (.tmp 38))⟩])
 (.seq (.reg [⟨(some 39), none, (.mv (.tmp 5))⟩,
  ⟨(some 40), none, (.mv (.tmp 39))⟩,
  ⟨(some 41), (some (some 40, true)), (.ld 17 true (.tmp 2))⟩,
  ⟨(some 42), (some (some 40, true)), (.mv (.tmp 1))⟩,
  ⟨(some 43), (some (some 40, true)), (.call 20 [(.tmp 41), (.tmp 42)])⟩,
  ⟨(some 44), (some (some 40, true)), (.mv (.tmp 6))⟩,
  ⟨(some 45), (some (some 40, true)), (.beq false (.tmp 43) (.tmp 44))⟩,
  ⟨(some 46), none, (.pick (.tmp 40) (.tmp 45) (.const (Value.bool false)))⟩,
  ⟨(some 47), none, (.mv (.tmp 46))⟩,
  ⟨(some 48), (some (some 47, true)), (.mv (.tmp 8))⟩,
  ⟨(some 49), (some (some 47, true)), (.bst [(1, (.v (.slice none 0 0))), (1, (.v (.int .i64 0))), (1, (.v (.int .i64 0))), (1, (.v (.slice none 0 0))), (1, (.v (.slice none 0 0))), (12, (.st [(6, (.arr 1 [(.v (.int .u64 0)), (.v (.int .u64 0)), (.v (.int .u64 0)), (.v (.int .u64 0)), (.v (.int .u64 0)), (.v (.int .u64 0))])), (6, (.arr 1 [(.v (.int .u64 0)), (.v (.int .u64 0)), (.v (.int .u64 0)), (.v (.int .u64 0)), (.v (.int .u64 0)), (.v (.int .u64 0))]))]))] [(3, (.tmp 48))])⟩,
  ⟨(some 50), (some (some 47, true)), (.mv (.tmp 1))⟩,
  ⟨(some 51), (some (some 47, true)), (.call 20 [(.tmp 49), (.tmp 50)])⟩,
  ⟨(some 52), none, (.pick (.tmp 47) (.tmp 51) (.const (Value.bool false)))⟩,
  ⟨(some 4), none, (.mv (.tmp 52))⟩])
 .ret)))

def cc5 : CC :=
 (.seq (.reg [⟨(some 2), none, (.box 17 (.tmp 0))⟩,
  ⟨(some 4), none, (.mv (.const (Value.bool false)))⟩])
 (.seq (.reg [⟨(some 9), none, (.call 16 [])⟩,
  ⟨(some 5), none, (.mv (.tmp 9))⟩])
 (.seq (.reg [⟨(some 6), none, (.mv (.const (Value.bool false)))⟩])
 (.seq (.seq (.reg [⟨(some 7), none, (.mv (.const (Value.int .i64 0)))⟩])
 (.blk 0 (.loop cc5_0)))
 cc5_1))))

def cc16 : CC :=
 (.seq (.reg [⟨(some 0), none, (.mv (.const (Value.bool false)))⟩])
 (.seq (.reg [⟨(some 8), none, (.bsl 5 1 2 (.v (.int .u8 0)) [(0, (.const (Value.int .u8 48))), (1, (.const (Value.int .u8 0)))])⟩,
  ⟨(some 9), none, (.call 32 [(.tmp 8)])⟩,
  ⟨(some 7), none, (.mv (.tmp 9))⟩,
  ⟨(some 10), none, (.ext (.tmp 7) 0)⟩,
  ⟨(some 11), none, (.ext (.tmp 7) 1)⟩,
  ⟨(some 1), none, (.new 17 (.st [(1, (.v (.slice none 0 0))), (1, (.v (.int .i64 0))), (1, (.v (.int .i64 0))), (1, (.v (.slice none 0 0))), (1, (.v (.slice none 0 0))), (12, (.st [(6, (.arr 1 [(.v (.int .u64 0)), (.v (.int .u64 0)), (.v (.int .u64 0)), (.v (.int .u64 0)), (.v (.int .u64 0)), (.v (.int .u64 0))])), (6, (.arr 1 [(.v (.int .u64 0)), (.v (.int .u64 0)), (.v (.int .u64 0)), (.v (.int .u64 0)), (.v (.int .u64 0)), (.v (.int .u64 0))]))]))]))⟩,
  ⟨none, none, (.sto 17 (.tmp 1) (.tmp 10))⟩,
  ⟨(some 2), none, (.mv (.tmp 11))⟩])
 (.seq (.reg [⟨(some 13), none, (.bst [(1, (.v (.slice none 0 0))), (1, (.v (.int .i64 0))), (1, (.v (.int .i64 0))), (1, (.v (.slice none 0 0))), (1, (.v (.slice none 0 0))), (12, (.st [(6, (.arr 1 [(.v (.int .u64 0)), (.v (.int .u64 0)), (.v (.int .u64 0)), (.v (.int .u64 0)), (.v (.int .u64 0)), (.v (.int .u64 0))])), (6, (.arr 1 [(.v (.int .u64 0)), (.v (.int .u64 0)), (.v (.int .u64 0)), (.v (.int .u64 0)), (.v (.int .u64 0)), (.v (.int .u64 0))]))]))] [])⟩,
  ⟨(some 14), none, (.call 18 [(.tmp 13)])⟩,
  ⟨(some 12), none, (.mv (.tmp 14))⟩,
  ⟨(some 15), none, (.ext (.tmp 12) 0)⟩,
  ⟨(some 16), none, (.ext (.tmp 12) 1)⟩,
  ⟨(some 3), none, (.mv (.tmp 15))⟩,
  ⟨(some 4), none, (.mv (.tmp 16))⟩])
 (.seq (.reg [⟨(some 18), none, (.bst [(1, (.v (.slice none 0 0))), (1, (.v (.int .i64 0))), (1, (.v (.int .i64 0))), (1, (.v (.slice none 0 0))), (1, (.v (.slice none 0 0))), (12, (.st [(6, (.arr 1 [(.v (.int .u64 0)), (.v (.int .u64 0)), (.v (.int .u64 0)), (.v (.int .u64 0)), (.v (.int .u64 0)), (.v (.int .u64 0))])), (6, (.arr 1 [(.v (.int .u64 0)), (.v (.int .u64 0)), (.v (.int .u64 0)), (.v (.int .u64 0)), (.v (.int .u64 0)), (.v (.int .u64 0))]))]))] [])⟩,
  ⟨(some 19), none, (.call 19 [(.tmp 18)])⟩,
  ⟨(some 17), none, (.mv (.tmp 19))⟩,
  ⟨(some 20), none, (.ext (.tmp 17) 0)⟩,
  ⟨(some 21), none, (.ext (.tmp 17) 1)⟩,
  ⟨(some 5), none, (.mv (.tmp 20))⟩,
  ⟨(some 6), none, (.mv (.tmp 21))⟩])
 (.seq (.reg [⟨(some 22), none, (.mv (.tmp 2))⟩,
  ⟨(some 23), none, (.mki 40 (.const (Value.int .i64 7)))⟩,
  ⟨(some 24), none, (.ieq false (.tmp 22) (.tmp 23))⟩,
  ⟨(some 25), none, (.mv (.tmp 24))⟩,
  ⟨(some 26), (some (some 25, true)), (.mv (.tmp 4))⟩,
  ⟨(some 27), (some (some 25, true)), (.ieq false (.tmp 26) (.const Value.nilIface))⟩,
  ⟨(some 28), none, (.pick (.tmp 25) (.tmp 27) (.const (Value.bool false)))⟩,
  ⟨(some 29), none, (.mv (.tmp 28))⟩,
  ⟨(some 30), (some (some 29, true)), (.mv (.tmp 3))⟩,
  ⟨(some 31), (some (some 29, true)), (.cvStr (.tmp 30))⟩,
  ⟨(some 32), (some (some 29, true)), (.mv (.tmp 5))⟩,
  ⟨(some 33), (some (some 29, true)), (.cvStr (.tmp 32))⟩,
  ⟨(some 34), (some (some 29, true)), (.bin .eql (.tmp 31) (.tmp 33))⟩,
  ⟨(some 35), none, (.pick (.tmp 29) (.tmp 34) (.const (Value.bool false)))⟩,
  ⟨(some 0), none, (.mv (.tmp 35))⟩])
 .ret)))))

def cc18_0 : CC :=
 (.seq (.reg [⟨(some 63), none, (.bin .lss (.tmp 62) (.tmp 61))⟩])
 (.seq (.cond (.tmp 63) .skip
 (.exit 0))
 (.seq (.blk 1 (.seq (.reg [⟨(some 64), none, (.idxS 2 (.tmp 60) (.tmp 62))⟩,
  ⟨(some 65), none, (.ld 2 true (.tmp 64))⟩,
  ⟨(some 13), none, (.new 2 (.st [(1, (.v (.slice none 0 0))), (1, (.v (.int .i64 0)))]))⟩,
  ⟨none, none, (.sto 2 (.tmp 13) (.tmp 65))⟩])
 (.seq (.reg [⟨(some 67), none, (.fld 0 0 1 (.tmp 13))⟩,
  ⟨(some 68), none, (.ld 1 false (.tmp 67))⟩,
  ⟨(some 69), none, (.call 38 [(.tmp 68)])⟩,
  ⟨(some 66), none, (.mv (.tmp 69))⟩,
  ⟨(some 70), none, (.ext (.tmp 66) 0)⟩,
  ⟨(some 71), none, (.ext (.tmp 66) 1)⟩,
  ⟨(some 14), none, (.new 5 (.st [(1, (.v (.int .i64 0))), (1, (.v (.int .i64 0))), (1, (.v (.bool false))), (1, (.v (.slice none 0 0))), (1, (.v (.slice none 0 0)))]))⟩,
  ⟨none, none, (.sto 5 (.tmp 14) (.tmp 70))⟩,
  ⟨(some 15), none, (.mv (.tmp 71))⟩])
 (.seq (.reg [⟨(some 73), none, (.fld 1 1 1 (.tmp 13))⟩,
  ⟨(some 74), none, (.ld 1 false (.tmp 73))⟩,
  ⟨(some 75), none, (.call 34 [(.tmp 74)])⟩,
  ⟨(some 72), none, (.mv (.tmp 75))⟩,
  ⟨(some 76), none, (.ext (.tmp 72) 0)⟩,
  ⟨(some 77), none, (.ext (.tmp 72) 1)⟩,
  ⟨(some 16), none, (.new 5 (.st [(1, (.v (.int .i64 0))), (1, (.v (.int .i64 0))), (1, (.v (.bool false))), (1, (.v (.slice none 0 0))), (1, (.v (.slice none 0 0)))]))⟩,
  ⟨none, none, (.sto 5 (.tmp 16) (.tmp 76))⟩,
  ⟨(some 17), none, (.mv (.tmp 77))⟩])
 (.seq (.seq (.reg [⟨(some 78), none, (.mv (.tmp 15))⟩,
  ⟨(some 79), none, (.un .not (.tmp 78))⟩,
  ⟨(some 80), none, (.mv (.tmp 79))⟩,
  ⟨(some 81), (some (some 80, false)), (.mv (.tmp 17))⟩,
  ⟨(some 82), (some (some 80, false)), (.un .not (.tmp 81))⟩,
  ⟨(some 83), none, (.pick (.tmp 80) (.const (Value.bool true)) (.tmp 82))⟩])
 (.cond (.tmp 83) (.seq (.reg [⟨(some 84), none, (.mki 40 (.const (Value.int .i64 1)))⟩,
  ⟨(some 2), none, (.mv (.const (Value.slice none 0 0)))⟩,
  ⟨(some 3), none, (.mv (.tmp 84))⟩])
 .ret)
 .skip))
 (.reg [⟨(some 85), none, (.mv (.tmp 11))⟩,
  ⟨(some 86), none, (.ld 5 true (.tmp 14))⟩,
  ⟨(some 87), none, (.ld 5 true (.tmp 16))⟩,
  ⟨(some 88), none, (.bsl 35 5 2 (.st [(1, (.v (.int .i64 0))), (1, (.v (.int .i64 0))), (1, (.v (.bool false))), (1, (.v (.slice none 0 0))), (1, (.v (.slice none 0 0)))]) [(0, (.tmp 86)), (1, (.tmp 87))])⟩,
  ⟨(some 89), none, (.call 35 [(.tmp 88)])⟩,
  ⟨(some 90), none, (.bsl 35 5 1 (.st [(1, (.v (.int .i64 0))), (1, (.v (.int .i64 0))), (1, (.v (.bool false))), (1, (.v (.slice none 0 0))), (1, (.v (.slice none 0 0)))]) [(0, (.tmp 89))])⟩,
  ⟨(some 91), none, (.app 35 5 72 (.tmp 85) (.tmp 90))⟩,
  ⟨(some 11), none, (.mv (.tmp 91))⟩]))))))
 (.reg [⟨(some 92), none, (.bin .add (.tmp 62) (.const (Value.int .i64 1)))⟩,
  ⟨(some 62), none, (.mv (.tmp 92))⟩]))))

def cc18_1 : CC :=
 (.seq (.seq (.reg [⟨(some 93), none, (.mv (.tmp 11))⟩,
  ⟨(some 94), none, (.len (.tmp 93))⟩,
  ⟨(some 95), none, (.bin .gtr (.tmp 94) (.const (Value.int .i64 0)))⟩])
 (.cond (.tmp 95) (.drw [⟨(some 96), none, (.fld 4 4 1 (.tmp 10))⟩,
  ⟨(some 97), none, (.ld 1 false (.tmp 96))⟩,
  ⟨(some 98), none, (.mv (.tmp 11))⟩,
  ⟨(some 99), none, (.call 35 [(.tmp 98)])⟩,
  ⟨(some 100), none, (.bsl 35 5 1 (.st [(1, (.v (.int .i64 0))), (1, (.v (.int .i64 0))), (1, (.v (.bool false))), (1, (.v (.slice none 0 0))), (1, (.v (.slice none 0 0)))]) [(0, (.tmp 99))])⟩,
  ⟨(some 101), none, (.app 35 5 72 (.tmp 97) (.tmp 100))⟩,
  ⟨(some 102), none, (.fld 4 4 1 (.tmp 10))⟩,
  ⟨none, none, (.sto 1 (.tmp 102) (.tmp 101))⟩] [[], [0], [], [2], [3], [1, 4, 3], [0, 1, 2, 3, 4, 5], [6, 5, 5, 0, 1, 2, 3, 4, 5]])
 .skip))
 (.seq (.reg [⟨(some 103), none, (.ld 5 true (.tmp 10))⟩,
  ⟨(some 104), none, (.call 39 [(.tmp 103)])⟩,
  ⟨(some 105), none, (.ext (.tmp 104) 0)⟩,
  ⟨(some 106), none, (.ext (.tmp 104) 1)⟩,
  ⟨(some 2), none, (.mv (.tmp 105))⟩,
  ⟨(some 3), none, (.mv (.tmp 106))⟩])
 .ret))

def cc18 : CC :=
 (.seq (.reg [⟨(some 1), none, (.box 17 (.tmp 0))⟩,
  ⟨(some 2), none, (.mv (.const (Value.slice none 0 0)))⟩,
  ⟨(some 3), none, (.mv (.const Value.nilIface))⟩])
 (.seq (.seq (.reg [⟨(some 18), none, (.fld 3 3 1 (.tmp 1))⟩,
  ⟨(some 19), none, (.ld 1 false (.tmp 18))⟩,
  ⟨(some 20), none, (.len (.tmp 19))⟩,
  ⟨(some 21), none, (.bin .gtr (.tmp 20) (.const (Value.int .i64 64)))⟩])
 (.cond (.tmp 21) (.seq (.reg [⟨(some 22), none, (.mki 40 (.const (Value.int .i64 1)))⟩,
  ⟨(some 2), none, (.mv (.const (Value.slice none 0 0)))⟩,
  ⟨(some 3), none, (.mv (.tmp 22))⟩])
 .ret)
 .skip))
 (.seq (.reg [⟨(some 24), none, (.fld 0 0 1 (.tmp 1))⟩,
  ⟨(some 25), none, (.ld 1 false (.tmp 24))⟩,
  ⟨(some 26), none, (.call 33 [(.tmp 25)])⟩,
  ⟨(some 23), none, (.mv (.tmp 26))⟩,
  ⟨(some 27), none, (.ext (.tmp 23) 0)⟩,
  ⟨(some 28), none, (.ext (.tmp 23) 1)⟩,
  ⟨(some 4), none, (.new 5 (.st [(1, (.v (.int .i64 0))), (1, (.v (.int .i64 0))), (1, (.v (.bool false))), (1, (.v (.slice none 0 0))), (1, (.v (.slice none 0 0)))]))⟩,
  ⟨none, none, (.sto 5 (.tmp 4) (.tmp 27))⟩,
  ⟨(some 5), none, (.mv (.tmp 28))⟩])
 (.seq (.reg [⟨(some 30), none, (.fld 1 1 1 (.tmp 1))⟩,
  ⟨(some 31), none, (.ld 1 false (.tmp 30))⟩,
  ⟨(some 32), none, (.call 34 [(.tmp 31)])⟩,
  ⟨(some 29), none, (.mv (.tmp 32))⟩,
  ⟨(some 33), none, (.ext (.tmp 29) 0)⟩,
  ⟨(some 34), none, (.ext (.tmp 29) 1)⟩,
  ⟨(some 6), none, (.new 5 (.st [(1, (.v (.int .i64 0))), (1, (.v (.int .i64 0))), (1, (.v (.bool false))), (1, (.v (.slice none 0 0))), (1, (.v (.slice none 0 0)))]))⟩,
  ⟨none, none, (.sto 5 (.tmp 6) (.tmp 33))⟩,
  ⟨(some 7), none, (.mv (.tmp 34))⟩])
 (.seq (.reg [⟨(some 36), none, (.fld 2 2 1 (.tmp 1))⟩,
  ⟨(some 37), none, (.ld 1 false (.tmp 36))⟩,
  ⟨(some 38), none, (.call 34 [(.tmp 37)])⟩,
  ⟨(some 35), none, (.mv (.tmp 38))⟩,
  ⟨(some 39), none, (.ext (.tmp 35) 0)⟩,
  ⟨(some 40), none, (.ext (.tmp 35) 1)⟩,
  ⟨(some 8), none, (.new 5 (.st [(1, (.v (.int .i64 0))), (1, (.v (.int .i64 0))), (1, (.v (.bool false))), (1, (.v (.slice none 0 0))), (1, (.v (.slice none 0 0)))]))⟩,
  ⟨none, none, (.sto 5 (.tmp 8) (.tmp 39))⟩,
  ⟨(some 9), none, (.mv (.tmp 40))⟩])
 (.seq (.seq (.reg [⟨(some 41), none, (.mv (.tmp 5))⟩,
  ⟨(some 42), none, (.ieq true (.tmp 41) (.const Value.nilIface))⟩,
  ⟨(some 43), none, (.mv (.tmp 42))⟩,
  ⟨(some 44), (some (some 43, false)), (.mv (.tmp 7))⟩,
  ⟨(some 45), (some (some 43, false)), (.un .not (.tmp 44))⟩,
  ⟨(some 46), none, (.pick (.tmp 43) (.const (Value.bool true)) (.tmp 45))⟩,
  ⟨(some 47), none, (.mv (.tmp 46))⟩,
  ⟨(some 48), (some (some 47, false)), (.mv (.tmp 9))⟩,
  ⟨(some 49), (some (some 47, false)), (.un .not (.tmp 48))⟩,
  ⟨(some 50), none, (.pick (.tmp 47) (.const (Value.bool true)) (.tmp 49))⟩])
 (.cond (.tmp 50) (.seq (.reg [⟨(some 51), none, (.mki 40 (.const (Value.int .i64 1)))⟩,
  ⟨(some 2), none, (.mv (.const (Value.slice none 0 0)))⟩,
  ⟨(some 3), none, (.mv (.tmp 51))⟩])
 .ret)
 .skip))
 (.seq (.drw [⟨(some 52), none, (.call 36 [])⟩,
  ⟨(some 53), none, (.call 37 [])⟩,
  ⟨(some 54), none, (.ld 5 true (.tmp 4))⟩,
  ⟨(some 55), none, (.ld 5 true (.tmp 6))⟩,
  ⟨(some 56), none, (.ld 5 true (.tmp 8))⟩,
  ⟨(some 57), none, (.bsl 35 5 5 (.st [(1, (.v (.int .i64 0))), (1, (.v (.int .i64 0))), (1, (.v (.bool false))), (1, (.v (.slice none 0 0))), (1, (.v (.slice none 0 0)))]) [(0, (.tmp 52)), (1, (.tmp 53)), (2, (.tmp 54)), (3, (.tmp 55)), (4, (.tmp 56))])⟩,
  ⟨(some 58), none, (.call 35 [(.tmp 57)])⟩,
  ⟨(some 10), none, (.new 5 (.st [(1, (.v (.int .i64 0))), (1, (.v (.int .i64 0))), (1, (.v (.bool false))), (1, (.v (.slice none 0 0))), (1, (.v (.slice none 0 0)))]))⟩,
  ⟨none, none, (.sto 5 (.tmp 10) (.tmp 58))⟩] [[], [0], [], [], [], [0, 1, 2, 3, 4], [5, 1], [], [7, 6, 6, 0, 1, 2, 3, 4, 5, 6, 7]])
 (.seq (.reg [⟨(some 11), none, (.mv (.const (Value.slice none 0 0)))⟩])
 (.seq (.seq (.reg [⟨(some 59), none, (.fld 3 3 1 (.tmp 1))⟩,
  ⟨(some 60), none, (.ld 1 false (.tmp 59))⟩,
  ⟨(some 61), none, (.len (.tmp 60))⟩,
  ⟨(some 62), none, (.mv (.const (Value.int .i64 0)))⟩])
 (.blk 0 (.loop cc18_0)))
 cc18_1)))))))))

def cc19_0 : CC :=
 (.seq (.seq (.reg [⟨(some 55), none, (.mv (.tmp 11))⟩,
  ⟨(some 56), none, (.fld 3 3 1 (.tmp 1))⟩,
  ⟨(some 57), none, (.ld 1 false (.tmp 56))⟩,
  ⟨(some 58), none, (.len (.tmp 57))⟩,
  ⟨(some 59), none, (.bin .lss (.tmp 55) (.tmp 58))⟩])
 (.cond (.tmp 59) .skip
 (.exit 0)))
 (.seq (.blk 1 (.seq (.reg [⟨(some 63), none, (.fld 3 3 1 (.tmp 1))⟩,
  ⟨(some 64), none, (.ld 1 false (.tmp 63))⟩,
  ⟨(some 65), none, (.mv (.tmp 11))⟩,
  ⟨(some 66), none, (.idxS 2 (.tmp 64) (.tmp 65))⟩,
  ⟨(some 67), none, (.fld 0 0 1 (.tmp 66))⟩,
  ⟨(some 68), none, (.ld 1 false (.tmp 67))⟩,
  ⟨(some 69), none, (.call 45 [(.tmp 68)])⟩,
  ⟨(some 62), none, (.mv (.tmp 69))⟩,
  ⟨(some 70), none, (.ext (.tmp 62) 0)⟩,
  ⟨(some 71), none, (.ext (.tmp 62) 1)⟩,
  ⟨(some 12), none, (.new 5 (.st [(1, (.v (.int .i64 0))), (1, (.v (.int .i64 0))), (1, (.v (.bool false))), (1, (.v (.slice none 0 0))), (1, (.v (.slice none 0 0)))]))⟩,
  ⟨none, none, (.sto 5 (.tmp 12) (.tmp 70))⟩,
  ⟨(some 13), none, (.mv (.tmp 71))⟩])
 (.seq (.reg [⟨(some 73), none, (.fld 3 3 1 (.tmp 1))⟩,
  ⟨(some 74), none, (.ld 1 false (.tmp 73))⟩,
  ⟨(some 75), none, (.mv (.tmp 11))⟩,
  ⟨(some 76), none, (.idxS 2 (.tmp 74) (.tmp 75))⟩,
  ⟨(some 77), none, (.fld 1 1 1 (.tmp 76))⟩,
  ⟨(some 78), none, (.ld 1 false (.tmp 77))⟩,
  ⟨(some 79), none, (.call 40 [(.tmp 78)])⟩,
  ⟨(some 72), none, (.mv (.tmp 79))⟩,
  ⟨(some 80), none, (.ext (.tmp 72) 0)⟩,
  ⟨(some 81), none, (.ext (.tmp 72) 1)⟩,
  ⟨(some 14), none, (.new 5 (.st [(1, (.v (.int .i64 0))), (1, (.v (.int .i64 0))), (1, (.v (.bool false))), (1, (.v (.slice none 0 0))), (1, (.v (.slice none 0 0)))]))⟩,
  ⟨none, none, (.sto 5 (.tmp 14) (.tmp 80))⟩,
  ⟨(some 15), none, (.mv (.tmp 81))⟩])
 (.seq (.seq (.reg [⟨(some 82), none, (.mv (.tmp 13))⟩,
  ⟨(some 83), none, (.un .not (.tmp 82))⟩,
  ⟨(some 84), none, (.mv (.tmp 83))⟩,
  ⟨(some 85), (some (some 84, false)), (.mv (.tmp 15))⟩,
  ⟨(some 86), (some (some 84, false)), (.un .not (.tmp 85))⟩,
  ⟨(some 87), none, (.pick (.tmp 84) (.const (Value.bool true)) (.tmp 86))⟩])
 (.cond (.tmp 87) (.seq (.reg [⟨(some 2), none, (.mv (.const (Value.slice none 0 0)))⟩,
  ⟨(some 3), none, (.mv (.const (Value.int .i64 1)))⟩])
 .ret)
 .skip))
 (.reg [⟨(some 88), none, (.mv (.tmp 10))⟩,
  ⟨(some 89), none, (.ld 5 true (.tmp 12))⟩,
  ⟨(some 90), none, (.ld 5 true (.tmp 14))⟩,
  ⟨(some 91), none, (.bsl 35 5 2 (.st [(1, (.v (.int .i64 0))), (1, (.v (.int .i64 0))), (1, (.v (.bool false))), (1, (.v (.slice none 0 0))), (1, (.v (.slice none 0 0)))]) [(0, (.tmp 89)), (1, (.tmp 90))])⟩,
  ⟨(some 92), none, (.call 46 [(.tmp 91)])⟩,
  ⟨(some 93), none, (.bsl 35 5 1 (.st [(1, (.v (.int .i64 0))), (1, (.v (.int .i64 0))), (1, (.v (.bool false))), (1, (.v (.slice none 0 0))), (1, (.v (.slice none 0 0)))]) [(0, (.tmp 92))])⟩,
  ⟨(some 94), none, (.app 35 5 72 (.tmp 88) (.tmp 93))⟩,
  ⟨(some 10), none, (.mv (.tmp 94))⟩])))))
 (.reg [⟨(some 60), none, (.mv (.tmp 11))⟩,
  ⟨(some 61), none, (.bin .add (.tmp 60) (.const (Value.int .i64 1)))⟩,
  ⟨(some 11), none, (.mv (.tmp 61))⟩])))

def cc19_1 : CC :=
 (.seq (.seq (.reg [⟨(some 95), none, (.mv (.tmp 10))⟩,
  ⟨(some 96), none, (.len (.tmp 95))⟩,
  ⟨(some 97), none, (.bin .gtr (.tmp 96) (.const (Value.int .i64 0)))⟩])
 (.cond (.tmp 97) (.reg [⟨(some 98), none, (.mv (.tmp 9))⟩,
  ⟨(some 99), none, (.mv (.tmp 10))⟩,
  ⟨(some 100), none, (.call 46 [(.tmp 99)])⟩,
  ⟨(some 101), none, (.bsl 35 5 1 (.st [(1, (.v (.int .i64 0))), (1, (.v (.int .i64 0))), (1, (.v (.bool false))), (1, (.v (.slice none 0 0))), (1, (.v (.slice none 0 0)))]) [(0, (.tmp 100))])⟩,
  ⟨(some 102), none, (.app 35 5 72 (.tmp 98) (.tmp 101))⟩,
  ⟨(some 9), none, (.mv (.tmp 102))⟩])
 .skip))
 (.seq (.reg [⟨(some 103), none, (.mv (.tmp 9))⟩,
  ⟨(some 104), none, (.call 46 [(.tmp 103)])⟩,
  ⟨(some 105), none, (.call 47 [(.tmp 104)])⟩,
  ⟨(some 106), none, (.ext (.tmp 105) 0)⟩,
  ⟨(some 107), none, (.ext (.tmp 105) 1)⟩,
  ⟨(some 2), none, (.mv (.tmp 106))⟩,
  ⟨(some 3), none, (.mv (.tmp 107))⟩])
 .ret))

def cc19 : CC :=
 (.seq (.reg [⟨(some 1), none, (.box 17 (.tmp 0))⟩,
  ⟨(some 2), none, (.mv (.const (Value.slice none 0 0)))⟩,
  ⟨(some 3), none, (.mv (.const (Value.int .i64 0)))⟩])
 (.seq (.reg [⟨(some 17), none, (.fld 1 1 1 (.tmp 1))⟩,
  ⟨(some 18), none, (.ld 1 false (.tmp 17))⟩,
  ⟨(some 19), none, (.call 40 [(.tmp 18)])⟩,
  ⟨(some 16), none, (.mv (.tmp 19))⟩,
  ⟨(some 20), none, (.ext (.tmp 16) 0)⟩,
  ⟨(some 21), none, (.ext (.tmp 16) 1)⟩,
  ⟨(some 4), none, (.new 5 (.st [(1, (.v (.int .i64 0))), (1, (.v (.int .i64 0))), (1, (.v (.bool false))), (1, (.v (.slice none 0 0))), (1, (.v (.slice none 0 0)))]))⟩,
  ⟨none, none, (.sto 5 (.tmp 4) (.tmp 20))⟩,
  ⟨(some 5), none, (.mv (.tmp 21))⟩])
 (.seq (.reg [⟨(some 23), none, (.fld 2 2 1 (.tmp 1))⟩,
  ⟨(some 24), none, (.ld 1 false (.tmp 23))⟩,
  ⟨(some 25), none, (.call 40 [(.tmp 24)])⟩,
  ⟨(some 22), none, (.mv (.tmp 25))⟩,
  ⟨(some 26), none, (.ext (.tmp 22) 0)⟩,
  ⟨(some 27), none, (.ext (.tmp 22) 1)⟩,
  ⟨(some 6), none, (.new 5 (.st [(1, (.v (.int .i64 0))), (1, (.v (.int .i64 0))), (1, (.v (.bool false))), (1, (.v (.slice none 0 0))), (1, (.v (.slice none 0 0)))]))⟩,
  ⟨none, none, (.sto 5 (.tmp 6) (.tmp 26))⟩,
  ⟨(some 7), none, (.mv (.tmp 27))⟩])
 (.seq (.reg [⟨(some 28), none, (.fld 0 0 1 (.tmp 1))⟩,
  ⟨(some 29), none, (.ld 1 false (.tmp 28))⟩,
  ⟨(some 30), none, (.call 41 [(.tmp 29)])⟩,
  ⟨(some 8), none, (.mv (.tmp 30))⟩])
 (.seq (.seq (.reg [⟨(some 31), none, (.mv (.tmp 5))⟩,
  ⟨(some 32), none, (.un .not (.tmp 31))⟩,
  ⟨(some 33), none, (.mv (.tmp 32))⟩,
  ⟨(some 34), (some (some 33, false)), (.mv (.tmp 7))⟩,
  ⟨(some 35), (some (some 33, false)), (.un .not (.tmp 34))⟩,
  ⟨(some 36), none, (.pick (.tmp 33) (.const (Value.bool true)) (.tmp 35))⟩,
  ⟨(some 37), none, (.mv (.tmp 36))⟩,
  ⟨(some 38), (some (some 37, false)), (.mv (.tmp 8))⟩,
  ⟨(some 39), (some (some 37, false)), (.un .not (.tmp 38))⟩,
  ⟨(some 40), none, (.pick (.tmp 37) (.const (Value.bool true)) (.tmp 39))⟩,
  ⟨(some 41), none, (.mv (.tmp 40))⟩,
  ⟨(some 42), (some (some 41, false)), (.fld 3 3 1 (.tmp 1))⟩,
  ⟨(some 43), (some (some 41, false)), (.ld 1 false (.tmp 42))⟩,
  ⟨(some 44), (some (some 41, false)), (.len (.tmp 43))⟩,
  ⟨(some 45), (some (some 41, false)), (.bin .gtr (.tmp 44) (.const (Value.int .i64 64)))⟩,
  ⟨(some 46), none, (.pick (.tmp 41) (.const (Value.bool true)) (.tmp 45))⟩])
 (.cond (.tmp 46) (.seq (.reg [⟨(some 2), none, (.mv (.const (Value.slice none 0 0)))⟩,
  ⟨(some 3), none, (.mv (.const (Value.int .i64 1)))⟩])
 .ret)
 .skip))
 (.seq (.drw [⟨(some 47), none, (.call 42 [])⟩,
  ⟨(some 48), none, (.call 43 [])⟩,
  ⟨(some 49), none, (.fld 0 0 1 (.tmp 1))⟩,
  ⟨(some 50), none, (.ld 1 false (.tmp 49))⟩,
  ⟨(some 51), none, (.call 44 [(.tmp 50)])⟩,
  ⟨(some 52), none, (.ld 5 true (.tmp 4))⟩,
  ⟨(some 53), none, (.ld 5 true (.tmp 6))⟩,
  ⟨(some 54), none, (.bsl 35 5 5 (.st [(1, (.v (.int .i64 0))), (1, (.v (.int .i64 0))), (1, (.v (.bool false))), (1, (.v (.slice none 0 0))), (1, (.v (.slice none 0 0)))]) [(0, (.tmp 47)), (1, (.tmp 48)), (2, (.tmp 51)), (3, (.tmp 52)), (4, (.tmp 53))])⟩,
  ⟨(some 9), none, (.mv (.tmp 54))⟩] [[], [0], [], [2], [3, 1], [], [], [0, 1, 4, 5, 6], [7, 4, 0, 1, 2, 3, 4, 5, 6, 7]])
 (.seq (.reg [⟨(some 10), none, (.mv (.const (Value.slice none 0 0)))⟩])
 (.seq (.seq (.reg [⟨(some 11), none, (.mv (.const (Value.int .i64 0)))⟩])
 (.blk 0 (.loop cc19_0)))
 cc19_1))))))))

def cc20 : CC :=
 (.seq (.reg [⟨(some 2), none, (.box 17 (.tmp 0))⟩,
  ⟨(some 3), none, (.box 1 (.tmp 1))⟩,
  ⟨(some 4), none, (.mv (.const (Value.bool false)))⟩])
 (.seq (.reg [⟨(some 5), none, (.fld 3 3 1 (.tmp 2))⟩,
  ⟨(some 6), none, (.ld 1 false (.tmp 5))⟩,
  ⟨(some 7), none, (.mkf 49 [(.tmp 3)])⟩,
  ⟨(some 8), none, (.call 48 [(.tmp 6), (.tmp 7)])⟩,
  ⟨(some 4), none, (.mv (.tmp 8))⟩])
 .ret))

def cc24 : CC :=
 (.seq (.reg [⟨(some 2), none, (.new 5 (.st [(1, (.v (.int .i64 0))), (1, (.v (.int .i64 0))), (1, (.v (.bool false))), (1, (.v (.slice none 0 0))), (1, (.v (.slice none 0 0)))]))⟩,
  ⟨(some 3), none, (.mv (.const Value.nilIface))⟩])
 (.seq (.seq (.reg [⟨(some 7), none, (.mv (.tmp 0))⟩,
  ⟨(some 8), none, (.len (.tmp 7))⟩,
  ⟨(some 9), none, (.bin .gtr (.tmp 8) (.const (Value.int .i64 1048576)))⟩])
 (.cond (.tmp 9) (.seq (.reg [⟨(some 10), none, (.bst [(1, (.v (.int .i64 0))), (1, (.v (.int .i64 0))), (1, (.v (.bool false))), (1, (.v (.slice none 0 0))), (1, (.v (.slice none 0 0)))] [])⟩,
  ⟨(some 11), none, (.mki 40 (.const (Value.int .i64 2)))⟩,
  ⟨none, none, (.sto 5 (.tmp 2) (.tmp 10))⟩,
  ⟨(some 3), none, (.mv (.tmp 11))⟩])
 .ret)
 .skip))
 (.seq (.reg [⟨(some 13), none, (.mv (.tmp 0))⟩,
  ⟨(some 14), none, (.bst [(1, (.v (.slice none 0 0)))] [(0, (.tmp 13))])⟩,
  ⟨(some 15), none, (.mv (.tmp 0))⟩,
  ⟨(some 16), none, (.len (.tmp 15))⟩,
  ⟨(some 17), none, (.call 60 [(.tmp 14), (.const (Value.int .i64 0)), (.tmp 16), (.const (Value.int .i64 0))])⟩,
  ⟨(some 12), none, (.mv (.tmp 17))⟩,
  ⟨(some 18), none, (.ext (.tmp 12) 0)⟩,
  ⟨(some 19), none, (.ext (.tmp 12) 1)⟩,
  ⟨(some 20), none, (.ext (.tmp 12) 2)⟩,
  ⟨(some 4), none, (.new 5 (.st [(1, (.v (.int .i64 0))), (1, (.v (.int .i64 0))), (1, (.v (.bool false))), (1, (.v (.slice none 0 0))), (1, (.v (.slice none 0 0)))]))⟩,
  ⟨none, none, (.sto 5 (.tmp 4) (.tmp 18))⟩,
  ⟨(some 5), none, (.mv (.tmp 19))⟩,
  ⟨(some 6), none, (.mv (.tmp 20))⟩])
 (.seq (.blk 0 (.seq (.reg [⟨(some 22), none, (.mv (.tmp 6))⟩,
  ⟨(some 23), none, (.ieq true (.tmp 22) (.const Value.nilIface))⟩,
  ⟨(some 21), none, (.mv (.tmp 23))⟩])
 (.cond (.tmp 21) (.seq (.reg [⟨(some 24), none, (.bst [(1, (.v (.int .i64 0))), (1, (.v (.int .i64 0))), (1, (.v (.bool false))), (1, (.v (.slice none 0 0))), (1, (.v (.slice none 0 0)))] [])⟩,
  ⟨(some 25), none, (.mv (.tmp 6))⟩,
  ⟨none, none, (.sto 5 (.tmp 2) (.tmp 24))⟩,
  ⟨(some 3), none, (.mv (.tmp 25))⟩])
 .ret)
 (.seq (.reg [⟨(some 27), none, (.mv (.tmp 5))⟩,
  ⟨(some 28), none, (.mv (.tmp 0))⟩,
  ⟨(some 29), none, (.len (.tmp 28))⟩,
  ⟨(some 30), none, (.bin .lss (.tmp 27) (.tmp 29))⟩,
  ⟨(some 26), none, (.mv (.tmp 30))⟩])
 (.cond (.tmp 26) (.seq (.reg [⟨(some 31), none, (.bst [(1, (.v (.int .i64 0))), (1, (.v (.int .i64 0))), (1, (.v (.bool false))), (1, (.v (.slice none 0 0))), (1, (.v (.slice none 0 0)))] [])⟩,
  ⟨(some 32), none, (.mv (.tmp 5))⟩,
  ⟨(some 33), none, (.mki 40 (.const (Value.int .i64 8)))⟩,
  ⟨(some 34), none, (.call 61 [(.tmp 32), (.tmp 33)])⟩,
  ⟨none, none, (.sto 5 (.tmp 2) (.tmp 31))⟩,
  ⟨(some 3), none, (.mv (.tmp 34))⟩])
 .ret)
 .skip)))))
 (.seq (.reg [⟨(some 35), none, (.ld 5 true (.tmp 4))⟩,
  ⟨none, none, (.sto 5 (.tmp 2) (.tmp 35))⟩,
  ⟨(some 3), none, (.mv (.const Value.nilIface))⟩])
 .ret)))))

def cc32 : CC :=
 (.seq (.reg [⟨(some 2), none, (.new 17 (.st [(1, (.v (.slice none 0 0))), (1, (.v (.int .i64 0))), (1, (.v (.int .i64 0))), (1, (.v (.slice none 0 0))), (1, (.v (.slice none 0 0))), (12, (.st [(6, (.arr 1 [(.v (.int .u64 0)), (.v (.int .u64 0)), (.v (.int .u64 0)), (.v (.int .u64 0)), (.v (.int .u64 0)), (.v (.int .u64 0))])), (6, (.arr 1 [(.v (.int .u64 0)), (.v (.int .u64 0)), (.v (.int .u64 0)), (.v (.int .u64 0)), (.v (.int .u64 0)), (.v (.int .u64 0))]))]))]))⟩,
  ⟨(some 3), none, (.mv (.const Value.nilIface))⟩])
 (.seq (.reg [⟨(some 9), none, (.mv (.tmp 0))⟩,
  ⟨(some 10), none, (.call 24 [(.tmp 9)])⟩,
  ⟨(some 8), none, (.mv (.tmp 10))⟩,
  ⟨(some 11), none, (.ext (.tmp 8) 0)⟩,
  ⟨(some 12), none, (.ext (.tmp 8) 1)⟩,
  ⟨(some 4), none, (.new 5 (.st [(1, (.v (.int .i64 0))), (1, (.v (.int .i64 0))), (1, (.v (.bool false))), (1, (.v (.slice none 0 0))), (1, (.v (.slice none 0 0)))]))⟩,
  ⟨none, none, (.sto 5 (.tmp 4) (.tmp 11))⟩,
  ⟨(some 5), none, (.mv (.tmp 12))⟩])
 (.seq (.seq (.reg [⟨(some 13), none, (.mv (.tmp 5))⟩,
  ⟨(some 14), none, (.ieq true (.tmp 13) (.const Value.nilIface))⟩])
 (.cond (.tmp 14) (.seq (.reg [⟨(some 15), none, (.bst [(1, (.v (.slice none 0 0))), (1, (.v (.int .i64 0))), (1, (.v (.int .i64 0))), (1, (.v (.slice none 0 0))), (1, (.v (.slice none 0 0))), (12, (.st [(6, (.arr 1 [(.v (.int .u64 0)), (.v (.int .u64 0)), (.v (.int .u64 0)), (.v (.int .u64 0)), (.v (.int .u64 0)), (.v (.int .u64 0))])), (6, (.arr 1 [(.v (.int .u64 0)), (.v (.int .u64 0)), (.v (.int .u64 0)), (.v (.int .u64 0)), (.v (.int .u64 0)), (.v (.int .u64 0))]))]))] [])⟩,
  ⟨(some 16), none, (.mv (.tmp 5))⟩,
  ⟨none, none, (.sto 17 (.tmp 2) (.tmp 15))⟩,
  ⟨(some 3), none, (.mv (.tmp 16))⟩])
 .ret)
 .skip))
 (.seq (.reg [⟨(some 18), none, (.ld 5 true (.tmp 4))⟩,
  ⟨(some 19), none, (.call 72 [(.tmp 18)])⟩,
  ⟨(some 17), none, (.mv (.tmp 19))⟩,
  ⟨(some 20), none, (.ext (.tmp 17) 0)⟩,
  ⟨(some 21), none, (.ext (.tmp 17) 1)⟩,
  ⟨(some 6), none, (.new 17 (.st [(1, (.v (.slice none 0 0))), (1, (.v (.int .i64 0))), (1, (.v (.int .i64 0))), (1, (.v (.slice none 0 0))), (1, (.v (.slice none 0 0))), (12, (.st [(6, (.arr 1 [(.v (.int .u64 0)), (.v (.int .u64 0)), (.v (.int .u64 0)), (.v (.int .u64 0)), (.v (.int .u64 0)), (.v (.int .u64 0))])), (6, (.arr 1 [(.v (.int .u64 0)), (.v (.int .u64 0)), (.v (.int .u64 0)), (.v (.int .u64 0)), (.v (.int .u64 0)), (.v (.int .u64 0))]))]))]))⟩,
  ⟨none, none, (.sto 17 (.tmp 6) (.tmp 20))⟩,
  ⟨(some 7), none, (.mv (.tmp 21))⟩])
 (.seq (.seq (.reg [⟨(some 22), none, (.mv (.tmp 7))⟩,
  ⟨(some 23), none, (.un .not (.tmp 22))⟩])
 (.cond (.tmp 23) (.seq (.reg [⟨(some 24), none, (.bst [(1, (.v (.slice none 0 0))), (1, (.v (.int .i64 0))), (1, (.v (.int .i64 0))), (1, (.v (.slice none 0 0))), (1, (.v (.slice none 0 0))), (12, (.st [(6, (.arr 1 [(.v (.int .u64 0)), (.v (.int .u64 0)), (.v (.int .u64 0)), (.v (.int .u64 0)), (.v (.int .u64 0)), (.v (.int .u64 0))])), (6, (.arr 1 [(.v (.int .u64 0)), (.v (.int .u64 0)), (.v (.int .u64 0)), (.v (.int .u64 0)), (.v (.int .u64 0)), (.v (.int .u64 0))]))]))] [])⟩,
  ⟨(some 25), none, (.mki 40 (.const (Value.int .i64 7)))⟩,
  ⟨none, none, (.sto 17 (.tmp 2) (.tmp 24))⟩,
  ⟨(some 3), none, (.mv (.tmp 25))⟩])
 .ret)
 .skip))
 (.seq (.reg [⟨(some 26), none, (.ld 17 true (.tmp 6))⟩,
  ⟨none, none, (.sto 17 (.tmp 2) (.tmp 26))⟩,
  ⟨(some 3), none, (.mv (.const Value.nilIface))⟩])
 .ret))))))

def cc33_0 : CC :=
 (.seq (.reg [⟨(some 19), none, (.bin .lss (.tmp 18) (.tmp 17))⟩])
 (.seq (.cond (.tmp 19) .skip
 (.exit 0))
 (.seq (.blk 1 (.seq (.reg [⟨(some 20), none, (.idxS 2 (.tmp 16) (.tmp 18))⟩,
  ⟨(some 21), none, (.ld 2 true (.tmp 20))⟩,
  ⟨(some 6), none, (.new 2 (.st [(1, (.v (.int .i64 0))), (1, (.v (.string ⟨#[]⟩)))]))⟩,
  ⟨none, none, (.sto 2 (.tmp 6) (.tmp 21))⟩])
 (.seq (.seq (.reg [⟨(some 23), none, (.fld 1 1 1 (.tmp 6))⟩,
  ⟨(some 24), none, (.ld 1 false (.tmp 23))⟩,
  ⟨(some 25), none, (.cvByt 5 (.tmp 24))⟩,
  ⟨(some 26), none, (.call 74 [(.tmp 25)])⟩,
  ⟨(some 22), none, (.mv (.tmp 26))⟩,
  ⟨(some 27), none, (.ext (.tmp 22) 0)⟩,
  ⟨(some 28), none, (.ext (.tmp 22) 1)⟩,
  ⟨(some 7), none, (.mv (.tmp 27))⟩,
  ⟨(some 8), none, (.mv (.tmp 28))⟩])
 (.seq (.reg [⟨(some 29), none, (.mv (.tmp 8))⟩,
  ⟨(some 30), none, (.ieq true (.tmp 29) (.const Value.nilIface))⟩,
  ⟨(some 31), none, (.mv (.tmp 30))⟩,
  ⟨(some 32), (some (some 31, false)), (.fld 0 0 1 (.tmp 6))⟩,
  ⟨(some 33), (some (some 31, false)), (.ld 1 false (.tmp 32))⟩,
  ⟨(some 34), (some (some 31, false)), (.call 75 [(.tmp 33)])⟩,
  ⟨(some 35), (some (some 31, false)), (.un .not (.tmp 34))⟩,
  ⟨(some 36), none, (.pick (.tmp 31) (.const (Value.bool true)) (.tmp 35))⟩])
 (.cond (.tmp 36) (.seq (.reg [⟨(some 37), none, (.bst [(1, (.v (.int .i64 0))), (1, (.v (.int .i64 0))), (1, (.v (.bool false))), (1, (.v (.slice none 0 0))), (1, (.v (.slice none 0 0)))] [])⟩,
  ⟨(some 38), none, (.mki 40 (.const (Value.int .i64 1)))⟩,
  ⟨none, none, (.sto 5 (.tmp 2) (.tmp 37))⟩,
  ⟨(some 3), none, (.mv (.tmp 38))⟩])
 .ret)
 .skip)))
 (.seq (.reg [⟨(some 39), none, (.fld 0 0 1 (.tmp 6))⟩,
  ⟨(some 40), none, (.ld 1 false (.tmp 39))⟩,
  ⟨(some 41), none, (.cvI .u8 (.tmp 40))⟩,
  ⟨(some 42), none, (.bsl 5 1 3 (.v (.int .u8 0)) [(0, (.const (Value.int .u8 85))), (1, (.const (Value.int .u8 4))), (2, (.tmp 41))])⟩,
  ⟨(some 43), none, (.bst [(1, (.v (.int .i64 0))), (1, (.v (.int .i64 0))), (1, (.v (.bool false))), (1, (.v (.slice none 0 0))), (1, (.v (.slice none 0 0)))] [(1, (.const (Value.int .i64 6))), (3, (.tmp 42))])⟩,
  ⟨(some 44), none, (.fld 1 1 1 (.tmp 6))⟩,
  ⟨(some 45), none, (.ld 1 false (.tmp 44))⟩,
  ⟨(some 46), none, (.cvByt 5 (.tmp 45))⟩,
  ⟨(some 47), none, (.bst [(1, (.v (.int .i64 0))), (1, (.v (.int .i64 0))), (1, (.v (.bool false))), (1, (.v (.slice none 0 0))), (1, (.v (.slice none 0 0)))] [(1, (.const (Value.int .i64 12))), (3, (.tmp 46))])⟩,
  ⟨(some 48), none, (.bsl 35 5 2 (.st [(1, (.v (.int .i64 0))), (1, (.v (.int .i64 0))), (1, (.v (.bool false))), (1, (.v (.slice none 0 0))), (1, (.v (.slice none 0 0)))]) [(0, (.tmp 43)), (1, (.tmp 47))])⟩,
  ⟨(some 49), none, (.call 73 [(.tmp 48)])⟩,
  ⟨(some 9), none, (.new 5 (.st [(1, (.v (.int .i64 0))), (1, (.v (.int .i64 0))), (1, (.v (.bool false))), (1, (.v (.slice none 0 0))), (1, (.v (.slice none 0 0)))]))⟩,
  ⟨none, none, (.sto 5 (.tmp 9) (.tmp 49))⟩])
 (.reg [⟨(some 50), none, (.fld 4 4 1 (.tmp 4))⟩,
  ⟨(some 51), none, (.ld 1 false (.tmp 50))⟩,
  ⟨(some 52), none, (.ld 5 true (.tmp 9))⟩,
  ⟨(some 53), none, (.bsl 35 5 1 (.st [(1, (.v (.int .i64 0))), (1, (.v (.int .i64 0))), (1, (.v (.bool false))), (1, (.v (.slice none 0 0))), (1, (.v (.slice none 0 0)))]) [(0, (.tmp 52))])⟩,
  ⟨(some 54), none, (.bst [(1, (.v (.int .i64 0))), (1, (.v (.int .i64 0))), (1, (.v (.bool false))), (1, (.v (.slice none 0 0))), (1, (.v (.slice none 0 0)))] [(1, (.const (Value.int .i64 17))), (2, (.const (Value.bool true))), (4, (.tmp 53))])⟩,
  ⟨(some 55), none, (.bsl 35 5 1 (.st [(1, (.v (.int .i64 0))), (1, (.v (.int .i64 0))), (1, (.v (.bool false))), (1, (.v (.slice none 0 0))), (1, (.v (.slice none 0 0)))]) [(0, (.tmp 54))])⟩,
  ⟨(some 56), none, (.app 35 5 72 (.tmp 51) (.tmp 55))⟩,
  ⟨(some 57), none, (.fld 4 4 1 (.tmp 4))⟩,
  ⟨none, none, (.sto 1 (.tmp 57) (.tmp 56))⟩])))))
 (.reg [⟨(some 58), none, (.bin .add (.tmp 18) (.const (Value.int .i64 1)))⟩,
  ⟨(some 18), none, (.mv (.tmp 58))⟩]))))

def cc33_1 : CC :=
 (.seq (.reg [⟨(some 59), none, (.ld 5 true (.tmp 4))⟩,
  ⟨none, none, (.sto 5 (.tmp 2) (.tmp 59))⟩,
  ⟨(some 3), none, (.mv (.const Value.nilIface))⟩])
 .ret)

def cc33 : CC :=
 (.seq (.reg [⟨(some 2), none, (.new 5 (.st [(1, (.v (.int .i64 0))), (1, (.v (.int .i64 0))), (1, (.v (.bool false))), (1, (.v (.slice none 0 0))), (1, (.v (.slice none 0 0)))]))⟩,
  ⟨(some 3), none, (.mv (.const Value.nilIface))⟩])
 (.seq (.seq (.reg [⟨(some 10), none, (.mv (.tmp 0))⟩,
  ⟨(some 11), none, (.len (.tmp 10))⟩,
  ⟨(some 12), none, (.bin .gtr (.tmp 11) (.const (Value.int .i64 8)))⟩])
 (.cond (.tmp 12) (.seq (.reg [⟨(some 13), none, (.bst [(1, (.v (.int .i64 0))), (1, (.v (.int .i64 0))), (1, (.v (.bool false))), (1, (.v (.slice none 0 0))), (1, (.v (.slice none 0 0)))] [])⟩,
  ⟨(some 14), none, (.mki 40 (.const (Value.int .i64 1)))⟩,
  ⟨none, none, (.sto 5 (.tmp 2) (.tmp 13))⟩,
  ⟨(some 3), none, (.mv (.tmp 14))⟩])
 .ret)
 .skip))
 (.seq (.reg [⟨(some 15), none, (.call 73 [(.const (Value.slice none 0 0))])⟩,
  ⟨(some 4), none, (.new 5 (.st [(1, (.v (.int .i64 0))), (1, (.v (.int .i64 0))), (1, (.v (.bool false))), (1, (.v (.slice none 0 0))), (1, (.v (.slice none 0 0)))]))⟩,
  ⟨none, none, (.sto 5 (.tmp 4) (.tmp 15))⟩])
 (.seq (.seq (.reg [⟨(some 16), none, (.mv (.tmp 0))⟩,
  ⟨(some 17), none, (.len (.tmp 16))⟩,
  ⟨(some 18), none, (.mv (.const (Value.int .i64 0)))⟩])
 (.blk 0 (.loop cc33_0)))
 cc33_1))))

def cc34 : CC :=
 (.seq (.reg [⟨(some 2), none, (.new 5 (.st [(1, (.v (.int .i64 0))), (1, (.v (.int .i64 0))), (1, (.v (.bool false))), (1, (.v (.slice none 0 0))), (1, (.v (.slice none 0 0)))]))⟩,
  ⟨(some 3), none, (.mv (.const (Value.bool false)))⟩])
 (.seq (.reg [⟨(some 8), none, (.mv (.tmp 0))⟩,
  ⟨(some 9), none, (.call 76 [(.tmp 8)])⟩,
  ⟨(some 7), none, (.mv (.tmp 9))⟩,
  ⟨(some 10), none, (.ext (.tmp 7) 0)⟩,
  ⟨(some 11), none, (.ext (.tmp 7) 1)⟩,
  ⟨(some 12), none, (.ext (.tmp 7) 2)⟩,
  ⟨(some 4), none, (.mv (.tmp 10))⟩,
  ⟨(some 5), none, (.mv (.tmp 11))⟩,
  ⟨(some 6), none, (.mv (.tmp 12))⟩])
 (.seq (.drw [⟨(some 13), none, (.mv (.tmp 4))⟩,
  ⟨(some 14), none, (.mv (.tmp 5))⟩,
  ⟨(some 15), none, (.call 77 [(.tmp 13), (.tmp 14)])⟩,
  ⟨(some 16), none, (.mv (.tmp 6))⟩,
  ⟨(some 17), none, (.ieq false (.tmp 16) (.const Value.nilIface))⟩,
  ⟨none, none, (.sto 5 (.tmp 2) (.tmp 15))⟩,
  ⟨(some 3), none, (.mv (.tmp 17))⟩] [[], [], [0, 1], [], [3], [2, 2, 0, 1, 2], [4, 5, 0, 1, 2, 3, 4, 5]])
 .ret)))

def cc35 : CC :=
 (.seq (.reg [⟨(some 2), none, (.new 5 (.st [(1, (.v (.int .i64 0))), (1, (.v (.int .i64 0))), (1, (.v (.bool false))), (1, (.v (.slice none 0 0))), (1, (.v (.slice none 0 0)))]))⟩])
 (.seq (.reg [⟨(some 3), none, (.mv (.tmp 0))⟩,
  ⟨(some 4), none, (.bst [(1, (.v (.int .i64 0))), (1, (.v (.int .i64 0))), (1, (.v (.bool false))), (1, (.v (.slice none 0 0))), (1, (.v (.slice none 0 0)))] [(1, (.const (Value.int .i64 16))), (2, (.const (Value.bool true))), (4, (.tmp 3))])⟩,
  ⟨none, none, (.sto 5 (.tmp 2) (.tmp 4))⟩])
 .ret))

def cc36 : CC :=
 (.seq (.reg [⟨(some 0), none, (.new 5 (.st [(1, (.v (.int .i64 0))), (1, (.v (.int .i64 0))), (1, (.v (.bool false))), (1, (.v (.slice none 0 0))), (1, (.v (.slice none 0 0)))]))⟩])
 (.seq (.reg [⟨(some 1), none, (.bsl 5 1 1 (.v (.int .u8 0)) [(0, (.const (Value.int .u8 1)))])⟩,
  ⟨(some 2), none, (.call 77 [(.const (Value.int .i64 2)), (.tmp 1)])⟩,
  ⟨none, none, (.sto 5 (.tmp 0) (.tmp 2))⟩])
 .ret))

def cc37 : CC :=
 (.seq (.reg [⟨(some 0), none, (.new 5 (.st [(1, (.v (.int .i64 0))), (1, (.v (.int .i64 0))), (1, (.v (.bool false))), (1, (.v (.slice none 0 0))), (1, (.v (.slice none 0 0)))]))⟩])
 (.seq (.reg [⟨(some 1), none, (.bsl 24 1 7 (.v (.int .u64 0)) [(0, (.const (Value.int .u64 1))), (1, (.const (Value.int .u64 2))), (2, (.const (Value.int .u64 840))), (3, (.const (Value.int .u64 10045))), (4, (.const (Value.int .u64 4))), (5, (.const (Value.int .u64 3))), (6, (.const (Value.int .u64 3)))])⟩,
  ⟨(some 2), none, (.call 78 [(.tmp 1)])⟩,
  ⟨(some 3), none, (.bsl 35 5 1 (.st [(1, (.v (.int .i64 0))), (1, (.v (.int .i64 0))), (1, (.v (.bool false))), (1, (.v (.slice none 0 0))), (1, (.v (.slice none 0 0)))]) [(0, (.tmp 2))])⟩,
  ⟨(some 4), none, (.call 35 [(.tmp 3)])⟩,
  ⟨none, none, (.sto 5 (.tmp 0) (.tmp 4))⟩])
 .ret))

def cc38 : CC :=
 (.seq (.reg [⟨(some 2), none, (.new 5 (.st [(1, (.v (.int .i64 0))), (1, (.v (.int .i64 0))), (1, (.v (.bool false))), (1, (.v (.slice none 0 0))), (1, (.v (.slice none 0 0)))]))⟩,
  ⟨(some 3), none, (.mv (.const (Value.bool false)))⟩])
 (.seq (.seq (.reg [⟨(some 6), none, (.mv (.tmp 0))⟩,
  ⟨(some 7), none, (.len (.tmp 6))⟩,
  ⟨(some 8), none, (.bin .lss (.tmp 7) (.const (Value.int .i64 1)))⟩,
  ⟨(some 9), none, (.mv (.tmp 8))⟩,
  ⟨(some 10), (some (some 9, false)), (.mv (.tmp 0))⟩,
  ⟨(some 11), (some (some 9, false)), (.len (.tmp 10))⟩,
  ⟨(some 12), (some (some 9, false)), (.bin .gtr (.tmp 11) (.const (Value.int .i64 20)))⟩,
  ⟨(some 13), none, (.pick (.tmp 9) (.const (Value.bool true)) (.tmp 12))⟩,
  ⟨(some 14), none, (.mv (.tmp 13))⟩,
  ⟨(some 15), (some (some 14, false)), (.mv (.tmp 0))⟩,
  ⟨(some 16), (some (some 14, false)), (.idxS 1 (.tmp 15) (.const (Value.int .i64 0)))⟩,
  ⟨(some 17), (some (some 14, false)), (.ld 1 false (.tmp 16))⟩,
  ⟨(some 18), (some (some 14, false)), (.bin .eql (.tmp 17) (.const (Value.int .u8 0)))⟩,
  ⟨(some 19), none, (.pick (.tmp 14) (.const (Value.bool true)) (.tmp 18))⟩])
 (.cond (.tmp 19) (.seq (.reg [⟨(some 20), none, (.bst [(1, (.v (.int .i64 0))), (1, (.v (.int .i64 0))), (1, (.v (.bool false))), (1, (.v (.slice none 0 0))), (1, (.v (.slice none 0 0)))] [])⟩,
  ⟨none, none, (.sto 5 (.tmp 2) (.tmp 20))⟩,
  ⟨(some 3), none, (.mv (.const (Value.bool false)))⟩])
 .ret)
 .skip))
 (.seq (.reg [⟨(some 22), none, (.mv (.tmp 0))⟩,
  ⟨(some 23), none, (.call 79 [(.tmp 22)])⟩,
  ⟨(some 21), none, (.mv (.tmp 23))⟩,
  ⟨(some 24), none, (.ext (.tmp 21) 0)⟩,
  ⟨(some 25), none, (.ext (.tmp 21) 1)⟩,
  ⟨(some 4), none, (.mv (.tmp 24))⟩,
  ⟨(some 5), none, (.mv (.tmp 25))⟩])
 (.seq (.drw [⟨(some 26), none, (.mv (.tmp 4))⟩,
  ⟨(some 27), none, (.call 77 [(.const (Value.int .i64 2)), (.tmp 26)])⟩,
  ⟨(some 28), none, (.mv (.tmp 5))⟩,
  ⟨(some 29), none, (.ieq false (.tmp 28) (.const Value.nilIface))⟩,
  ⟨none, none, (.sto 5 (.tmp 2) (.tmp 27))⟩,
  ⟨(some 3), none, (.mv (.tmp 29))⟩] [[], [0], [], [2], [1, 1, 0, 1], [3, 4, 0, 1, 2, 3, 4]])
 .ret))))

def cc39 : CC :=
 (.seq (.reg [⟨(some 1), none, (.box 5 (.tmp 0))⟩,
  ⟨(some 2), none, (.mv (.const (Value.slice none 0 0)))⟩,
  ⟨(some 3), none, (.mv (.const Value.nilIface))⟩])
 (.seq (.seq (.reg [⟨(some 7), none, (.ld 5 true (.tmp 1))⟩,
  ⟨(some 8), none, (.call 80 [(.tmp 7)])⟩,
  ⟨(some 6), none, (.mv (.tmp 8))⟩,
  ⟨(some 9), none, (.ext (.tmp 6) 0)⟩,
  ⟨(some 10), none, (.ext (.tmp 6) 1)⟩,
  ⟨(some 4), none, (.mv (.tmp 9))⟩,
  ⟨(some 5), none, (.mv (.tmp 10))⟩])
 (.seq (.reg [⟨(some 11), none, (.mv (.tmp 5))⟩,
  ⟨(some 12), none, (.ieq true (.tmp 11) (.const Value.nilIface))⟩])
 (.cond (.tmp 12) (.seq (.reg [⟨(some 13), none, (.mv (.tmp 5))⟩,
  ⟨(some 2), none, (.mv (.const (Value.slice none 0 0)))⟩,
  ⟨(some 3), none, (.mv (.tmp 13))⟩])
 .ret)
 .skip)))
 (.seq (.reg [⟨(some 14), none, (.ld 5 true (.tmp 1))⟩,
  ⟨(some 15), none, (.call 81 [(.const (Value.slice none 0 0)), (.tmp 14)])⟩,
  ⟨(some 2), none, (.mv (.tmp 15))⟩,
  ⟨(some 3), none, (.mv (.const Value.nilIface))⟩])
 .ret)))

def cc40 : CC :=
 (.seq (.reg [⟨(some 2), none, (.new 5 (.st [(1, (.v (.int .i64 0))), (1, (.v (.int .i64 0))), (1, (.v (.bool false))), (1, (.v (.slice none 0 0))), (1, (.v (.slice none 0 0)))]))⟩,
  ⟨(some 3), none, (.mv (.const (Value.bool false)))⟩])
 (.seq (.reg [⟨(some 8), none, (.mv (.tmp 0))⟩,
  ⟨(some 9), none, (.call 82 [(.tmp 8)])⟩,
  ⟨(some 7), none, (.mv (.tmp 9))⟩,
  ⟨(some 10), none, (.ext (.tmp 7) 0)⟩,
  ⟨(some 11), none, (.ext (.tmp 7) 1)⟩,
  ⟨(some 12), none, (.ext (.tmp 7) 2)⟩,
  ⟨(some 4), none, (.mv (.tmp 10))⟩,
  ⟨(some 5), none, (.mv (.tmp 11))⟩,
  ⟨(some 6), none, (.mv (.tmp 12))⟩])
 (.seq (.reg [⟨(some 13), none, (.mv (.tmp 4))⟩,
  ⟨(some 14), none, (.mv (.tmp 5))⟩,
  ⟨(some 15), none, (.bst [(1, (.v (.int .i64 0))), (1, (.v (.int .i64 0))), (1, (.v (.bool false))), (1, (.v (.slice none 0 0))), (1, (.v (.slice none 0 0)))] [(1, (.tmp 13)), (3, (.tmp 14))])⟩,
  ⟨(some 16), none, (.mv (.tmp 6))⟩,
  ⟨(some 17), none, (.bin .eql (.tmp 16) (.const (Value.int .i64 0)))⟩,
  ⟨none, none, (.sto 5 (.tmp 2) (.tmp 15))⟩,
  ⟨(some 3), none, (.mv (.tmp 17))⟩])
 .ret)))

def cc41_0 : CC :=
 (.seq (.seq (.reg [⟨(some 7), none, (.mv (.tmp 3))⟩,
  ⟨(some 8), none, (.mv (.tmp 0))⟩,
  ⟨(some 9), none, (.len (.tmp 8))⟩,
  ⟨(some 10), none, (.bin .lss (.tmp 7) (.tmp 9))⟩])
 (.cond (.tmp 10) .skip
 (.exit 0)))
 (.seq (.blk 1 (.seq (.reg [⟨(some 14), none, (.mv (.tmp 0))⟩,
  ⟨(some 15), none, (.mv (.tmp 3))⟩,
  ⟨(some 16), none, (.idxS 2 (.tmp 14) (.tmp 15))⟩,
  ⟨(some 17), none, (.fld 1 1 1 (.tmp 16))⟩,
  ⟨(some 18), none, (.ld 1 false (.tmp 17))⟩,
  ⟨(some 19), none, (.cvByt 5 (.tmp 18))⟩,
  ⟨(some 20), none, (.call 83 [(.tmp 19)])⟩,
  ⟨(some 13), none, (.mv (.tmp 20))⟩,
  ⟨(some 21), none, (.ext (.tmp 13) 0)⟩,
  ⟨(some 22), none, (.ext (.tmp 13) 1)⟩,
  ⟨(some 4), none, (.mv (.tmp 21))⟩,
  ⟨(some 5), none, (.mv (.tmp 22))⟩])
 (.seq (.reg [⟨(some 23), none, (.mv (.tmp 0))⟩,
  ⟨(some 24), none, (.mv (.tmp 3))⟩,
  ⟨(some 25), none, (.idxS 2 (.tmp 23) (.tmp 24))⟩,
  ⟨(some 26), none, (.fld 0 0 1 (.tmp 25))⟩,
  ⟨(some 27), none, (.ld 1 false (.tmp 26))⟩,
  ⟨(some 28), none, (.call 84 [(.tmp 27)])⟩,
  ⟨(some 6), none, (.mv (.tmp 28))⟩])
 (.seq (.reg [⟨(some 29), none, (.mv (.tmp 6))⟩,
  ⟨(some 30), none, (.un .not (.tmp 29))⟩,
  ⟨(some 31), none, (.mv (.tmp 30))⟩,
  ⟨(some 32), (some (some 31, false)), (.mv (.tmp 5))⟩,
  ⟨(some 33), (some (some 31, false)), (.bin .neq (.tmp 32) (.const (Value.int .i64 0)))⟩,
  ⟨(some 34), none, (.pick (.tmp 31) (.const (Value.bool true)) (.tmp 33))⟩])
 (.cond (.tmp 34) (.seq (.reg [⟨(some 2), none, (.mv (.const (Value.bool false)))⟩])
 .ret)
 .skip)))))
 (.reg [⟨(some 11), none, (.mv (.tmp 3))⟩,
  ⟨(some 12), none, (.bin .add (.tmp 11) (.const (Value.int .i64 1)))⟩,
  ⟨(some 3), none, (.mv (.tmp 12))⟩])))

def cc41_1 : CC :=
 (.seq (.reg [⟨(some 35), none, (.mv (.tmp 0))⟩,
  ⟨(some 36), none, (.len (.tmp 35))⟩,
  ⟨(some 37), none, (.bin .leq (.tmp 36) (.const (Value.int .i64 8)))⟩,
  ⟨(some 2), none, (.mv (.tmp 37))⟩])
 .ret)

def cc41 : CC :=
 (.seq (.reg [⟨(some 2), none, (.mv (.const (Value.bool false)))⟩])
 (.seq (.seq (.reg [⟨(some 3), none, (.mv (.const (Value.int .i64 0)))⟩])
 (.blk 0 (.loop cc41_0)))
 cc41_1))

def cc42 : CC :=
 (.seq (.reg [⟨(some 0), none, (.new 5 (.st [(1, (.v (.int .i64 0))), (1, (.v (.int .i64 0))), (1, (.v (.bool false))), (1, (.v (.slice none 0 0))), (1, (.v (.slice none 0 0)))]))⟩])
 (.seq (.reg [⟨(some 1), none, (.bsl 5 1 1 (.v (.int .u8 0)) [(0, (.const (Value.int .u8 1)))])⟩,
  ⟨(some 2), none, (.bst [(1, (.v (.int .i64 0))), (1, (.v (.int .i64 0))), (1, (.v (.bool false))), (1, (.v (.slice none 0 0))), (1, (.v (.slice none 0 0)))] [(1, (.const (Value.int .i64 2))), (3, (.tmp 1))])⟩,
  ⟨none, none, (.sto 5 (.tmp 0) (.tmp 2))⟩])
 .ret))

def cc43 : CC :=
 (.seq (.reg [⟨(some 0), none, (.new 5 (.st [(1, (.v (.int .i64 0))), (1, (.v (.int .i64 0))), (1, (.v (.bool false))), (1, (.v (.slice none 0 0))), (1, (.v (.slice none 0 0)))]))⟩])
 (.seq (.reg [⟨(some 1), none, (.bsl 24 1 7 (.v (.int .u64 0)) [(0, (.const (Value.int .u64 1))), (1, (.const (Value.int .u64 2))), (2, (.const (Value.int .u64 840))), (3, (.const (Value.int .u64 10045))), (4, (.const (Value.int .u64 4))), (5, (.const (Value.int .u64 3))), (6, (.const (Value.int .u64 3)))])⟩,
  ⟨(some 2), none, (.call 85 [(.tmp 1)])⟩,
  ⟨(some 3), none, (.bsl 35 5 1 (.st [(1, (.v (.int .i64 0))), (1, (.v (.int .i64 0))), (1, (.v (.bool false))), (1, (.v (.slice none 0 0))), (1, (.v (.slice none 0 0)))]) [(0, (.tmp 2))])⟩,
  ⟨(some 4), none, (.bst [(1, (.v (.int .i64 0))), (1, (.v (.int .i64 0))), (1, (.v (.bool false))), (1, (.v (.slice none 0 0))), (1, (.v (.slice none 0 0)))] [(1, (.const (Value.int .i64 16))), (2, (.const (Value.bool true))), (4, (.tmp 3))])⟩,
  ⟨none, none, (.sto 5 (.tmp 0) (.tmp 4))⟩])
 .ret))

def cc44_0 : CC :=
 (.seq (.seq (.reg [⟨(some 8), none, (.mv (.tmp 4))⟩,
  ⟨(some 9), none, (.mv (.tmp 0))⟩,
  ⟨(some 10), none, (.len (.tmp 9))⟩,
  ⟨(some 11), none, (.bin .lss (.tmp 8) (.tmp 10))⟩])
 (.cond (.tmp 11) .skip
 (.exit 0)))
 (.seq (.blk 1 (.seq (.drw [⟨(some 14), none, (.mv (.tmp 0))⟩,
  ⟨(some 15), none, (.mv (.tmp 4))⟩,
  ⟨(some 16), none, (.idxS 2 (.tmp 14) (.tmp 15))⟩,
  ⟨(some 17), none, (.fld 0 0 1 (.tmp 16))⟩,
  ⟨(some 18), none, (.ld 1 false (.tmp 17))⟩,
  ⟨(some 19), none, (.cvI .u8 (.tmp 18))⟩,
  ⟨(some 20), none, (.bsl 5 1 3 (.v (.int .u8 0)) [(0, (.const (Value.int .u8 85))), (1, (.const (Value.int .u8 4))), (2, (.tmp 19))])⟩,
  ⟨(some 21), none, (.bst [(1, (.v (.int .i64 0))), (1, (.v (.int .i64 0))), (1, (.v (.bool false))), (1, (.v (.slice none 0 0))), (1, (.v (.slice none 0 0)))] [(1, (.const (Value.int .i64 6))), (3, (.tmp 20))])⟩,
  ⟨(some 22), none, (.mv (.tmp 0))⟩,
  ⟨(some 23), none, (.mv (.tmp 4))⟩,
  ⟨(some 24), none, (.idxS 2 (.tmp 22) (.tmp 23))⟩,
  ⟨(some 25), none, (.fld 1 1 1 (.tmp 24))⟩,
  ⟨(some 26), none, (.ld 1 false (.tmp 25))⟩,
  ⟨(some 27), none, (.cvByt 5 (.tmp 26))⟩,
  ⟨(some 28), none, (.bst [(1, (.v (.int .i64 0))), (1, (.v (.int .i64 0))), (1, (.v (.bool false))), (1, (.v (.slice none 0 0))), (1, (.v (.slice none 0 0)))] [(1, (.const (Value.int .i64 12))), (3, (.tmp 27))])⟩,
  ⟨(some 29), none, (.bsl 35 5 2 (.st [(1, (.v (.int .i64 0))), (1, (.v (.int .i64 0))), (1, (.v (.bool false))), (1, (.v (.slice none 0 0))), (1, (.v (.slice none 0 0)))]) [(0, (.tmp 21)), (1, (.tmp 28))])⟩,
  ⟨(some 5), none, (.mv (.tmp 29))⟩] [[], [], [0, 1], [2], [3], [4], [5], [6], [], [], [8, 9], [10], [11], [12], [13], [7, 14], [15, 0, 1, 2, 3, 4, 5, 6, 7, 8, 9, 10, 11, 12, 13, 14, 15]])
 (.seq (.reg [⟨(some 30), none, (.mv (.tmp 5))⟩,
  ⟨(some 31), none, (.bst [(1, (.v (.int .i64 0))), (1, (.v (.int .i64 0))), (1, (.v (.bool false))), (1, (.v (.slice none 0 0))), (1, (.v (.slice none 0 0)))] [(1, (.const (Value.int .i64 16))), (2, (.const (Value.bool true))), (4, (.tmp 30))])⟩,
  ⟨(some 32), none, (.bsl 35 5 1 (.st [(1, (.v (.int .i64 0))), (1, (.v (.int .i64 0))), (1, (.v (.bool false))), (1, (.v (.slice none 0 0))), (1, (.v (.slice none 0 0)))]) [(0, (.tmp 31))])⟩,
  ⟨(some 6), none, (.mv (.tmp 32))⟩])
 (.reg [⟨(some 33), none, (.fld 4 4 1 (.tmp 3))⟩,
  ⟨(some 34), none, (.ld 1 false (.tmp 33))⟩,
  ⟨(some 35), none, (.mv (.tmp 6))⟩,
  ⟨(some 36), none, (.bst [(1, (.v (.int .i64 0))), (1, (.v (.int .i64 0))), (1, (.v (.bool false))), (1, (.v (.slice none 0 0))), (1, (.v (.slice none 0 0)))] [(1, (.const (Value.int .i64 17))), (2, (.const (Value.bool true))), (4, (.tmp 35))])⟩,
  ⟨(some 37), none, (.bsl 35 5 1 (.st [(1, (.v (.int .i64 0))), (1, (.v (.int .i64 0))), (1, (.v (.bool false))), (1, (.v (.slice none 0 0))), (1, (.v (.slice none 0 0)))]) [(0, (.tmp 36))])⟩,
  ⟨(some 38), none, (.app 35 5 72 (.tmp 34) (.tmp 37))⟩,
  ⟨(some 39), none, (.fld 4 4 1 (.tmp 3))⟩,
  ⟨none, none, (.sto 1 (.tmp 39) (.tmp 38))⟩]))))
 (.reg [⟨(some 12), none, (.mv (.tmp 4))⟩,
  ⟨(some 13), none, (.bin .add (.tmp 12) (.const (Value.int .i64 1)))⟩,
  ⟨(some 4), none, (.mv (.tmp 13))⟩])))

def cc44_1 : CC :=
 (.seq (.reg [⟨(some 40), none, (.ld 5 true (.tmp 3))⟩,
  ⟨none, none, (.sto 5 (.tmp 2) (.tmp 40))⟩])
 .ret)

def cc44 : CC :=
 (.seq (.reg [⟨(some 2), none, (.new 5 (.st [(1, (.v (.int .i64 0))), (1, (.v (.int .i64 0))), (1, (.v (.bool false))), (1, (.v (.slice none 0 0))), (1, (.v (.slice none 0 0)))]))⟩])
 (.seq (.reg [⟨(some 7), none, (.bst [(1, (.v (.int .i64 0))), (1, (.v (.int .i64 0))), (1, (.v (.bool false))), (1, (.v (.slice none 0 0))), (1, (.v (.slice none 0 0)))] [(1, (.const (Value.int .i64 16))), (2, (.const (Value.bool true)))])⟩,
  ⟨(some 3), none, (.new 5 (.st [(1, (.v (.int .i64 0))), (1, (.v (.int .i64 0))), (1, (.v (.bool false))), (1, (.v (.slice none 0 0))), (1, (.v (.slice none 0 0)))]))⟩,
  ⟨none, none, (.sto 5 (.tmp 3) (.tmp 7))⟩])
 (.seq (.seq (.reg [⟨(some 4), none, (.mv (.const (Value.int .i64 0)))⟩])
 (.blk 0 (.loop cc44_0)))
 cc44_1)))

def cc45 : CC :=
 (.seq (.reg [⟨(some 2), none, (.new 5 (.st [(1, (.v (.int .i64 0))), (1, (.v (.int .i64 0))), (1, (.v (.bool false))), (1, (.v (.slice none 0 0))), (1, (.v (.slice none 0 0)))]))⟩,
  ⟨(some 3), none, (.mv (.const (Value.bool false)))⟩])
 (.seq (.seq (.reg [⟨(some 6), none, (.mv (.tmp 0))⟩,
  ⟨(some 7), none, (.len (.tmp 6))⟩,
  ⟨(some 8), none, (.bin .lss (.tmp 7) (.const (Value.int .i64 1)))⟩,
  ⟨(some 9), none, (.mv (.tmp 8))⟩,
  ⟨(some 10), (some (some 9, false)), (.mv (.tmp 0))⟩,
  ⟨(some 11), (some (some 9, false)), (.len (.tmp 10))⟩,
  ⟨(some 12), (some (some 9, false)), (.bin .gtr (.tmp 11) (.const (Value.int .i64 20)))⟩,
  ⟨(some 13), none, (.pick (.tmp 9) (.const (Value.bool true)) (.tmp 12))⟩,
  ⟨(some 14), none, (.mv (.tmp 13))⟩,
  ⟨(some 15), (some (some 14, false)), (.mv (.tmp 0))⟩,
  ⟨(some 16), (some (some 14, false)), (.idxS 1 (.tmp 15) (.const (Value.int .i64 0)))⟩,
  ⟨(some 17), (some (some 14, false)), (.ld 1 false (.tmp 16))⟩,
  ⟨(some 18), (some (some 14, false)), (.bin .eql (.tmp 17) (.const (Value.int .u8 0)))⟩,
  ⟨(some 19), none, (.pick (.tmp 14) (.const (Value.bool true)) (.tmp 18))⟩])
 (.cond (.tmp 19) (.seq (.reg [⟨(some 20), none, (.bst [(1, (.v (.int .i64 0))), (1, (.v (.int .i64 0))), (1, (.v (.bool false))), (1, (.v (.slice none 0 0))), (1, (.v (.slice none 0 0)))] [])⟩,
  ⟨none, none, (.sto 5 (.tmp 2) (.tmp 20))⟩,
  ⟨(some 3), none, (.mv (.const (Value.bool false)))⟩])
 .ret)
 .skip))
 (.seq (.reg [⟨(some 22), none, (.mv (.tmp 0))⟩,
  ⟨(some 23), none, (.call 86 [(.tmp 22)])⟩,
  ⟨(some 21), none, (.mv (.tmp 23))⟩,
  ⟨(some 24), none, (.ext (.tmp 21) 0)⟩,
  ⟨(some 25), none, (.ext (.tmp 21) 1)⟩,
  ⟨(some 4), none, (.mv (.tmp 24))⟩,
  ⟨(some 5), none, (.mv (.tmp 25))⟩])
 (.seq (.reg [⟨(some 26), none, (.mv (.tmp 4))⟩,
  ⟨(some 27), none, (.bst [(1, (.v (.int .i64 0))), (1, (.v (.int .i64 0))), (1, (.v (.bool false))), (1, (.v (.slice none 0 0))), (1, (.v (.slice none 0 0)))] [(1, (.const (Value.int .i64 2))), (3, (.tmp 26))])⟩,
  ⟨none, none, (.sto 5 (.tmp 2) (.tmp 27))⟩,
  ⟨(some 3), none, (.mv (.const (Value.bool true)))⟩])
 .ret))))

def cc46 : CC :=
 (.seq (.reg [⟨(some 2), none, (.new 5 (.st [(1, (.v (.int .i64 0))), (1, (.v (.int .i64 0))), (1, (.v (.bool false))), (1, (.v (.slice none 0 0))), (1, (.v (.slice none 0 0)))]))⟩])
 (.seq (.reg [⟨(some 3), none, (.mv (.tmp 0))⟩,
  ⟨(some 4), none, (.bst [(1, (.v (.int .i64 0))), (1, (.v (.int .i64 0))), (1, (.v (.bool false))), (1, (.v (.slice none 0 0))), (1, (.v (.slice none 0 0)))] [(1, (.const (Value.int .i64 16))), (2, (.const (Value.bool true))), (4, (.tmp 3))])⟩,
  ⟨none, none, (.sto 5 (.tmp 2) (.tmp 4))⟩])
 .ret))

def cc47 : CC :=
 (.seq (.reg [⟨(some 1), none, (.box 5 (.tmp 0))⟩,
  ⟨(some 2), none, (.mv (.const (Value.slice none 0 0)))⟩,
  ⟨(some 3), none, (.mv (.const (Value.int .i64 0)))⟩])
 (.seq (.reg [⟨(some 6), none, (.ld 5 true (.tmp 1))⟩,
  ⟨(some 7), none, (.call 87 [(.tmp 6)])⟩,
  ⟨(some 4), none, (.mv (.tmp 7))⟩])
 (.seq (.seq (.reg [⟨(some 8), none, (.mv (.tmp 4))⟩,
  ⟨(some 9), none, (.un .not (.tmp 8))⟩])
 (.cond (.tmp 9) (.seq (.reg [⟨(some 2), none, (.mv (.const (Value.slice none 0 0)))⟩,
  ⟨(some 3), none, (.mv (.const (Value.int .i64 1)))⟩])
 .ret)
 .skip))
 (.seq (.seq (.reg [⟨(some 10), none, (.ld 5 true (.tmp 1))⟩,
  ⟨(some 11), none, (.call 88 [(.tmp 10)])⟩,
  ⟨(some 12), none, (.bin .gtr (.tmp 11) (.const (Value.int .i64 16)))⟩])
 (.cond (.tmp 12) (.seq (.reg [⟨(some 2), none, (.mv (.const (Value.slice none 0 0)))⟩,
  ⟨(some 3), none, (.mv (.const (Value.int .i64 9)))⟩])
 .ret)
 .skip))
 (.seq (.reg [⟨(some 13), none, (.ld 5 true (.tmp 1))⟩,
  ⟨(some 14), none, (.call 89 [(.tmp 13)])⟩,
  ⟨(some 5), none, (.mv (.tmp 14))⟩])
 (.seq (.seq (.reg [⟨(some 15), none, (.mv (.tmp 5))⟩,
  ⟨(some 16), none, (.len (.tmp 15))⟩,
  ⟨(some 17), none, (.bin .gtr (.tmp 16) (.const (Value.int .i64 1048576)))⟩])
 (.cond (.tmp 17) (.seq (.reg [⟨(some 2), none, (.mv (.const (Value.slice none 0 0)))⟩,
  ⟨(some 3), none, (.mv (.const (Value.int .i64 2)))⟩])
 .ret)
 .skip))
 (.seq (.reg [⟨(some 18), none, (.mv (.tmp 5))⟩,
  ⟨(some 2), none, (.mv (.tmp 18))⟩,
  ⟨(some 3), none, (.mv (.const (Value.int .i64 0)))⟩])
 .ret)))))))

def cc48 : CC :=
 (.seq (.reg [⟨(some 4), none, (.mv (.const (Value.bool false)))⟩])
 (.seq (.reg [⟨(some 5), none, (.mv (.tmp 0))⟩,
  ⟨(some 6), none, (.mv (.tmp 1))⟩,
  ⟨(some 7), none, (.call 90 [(.tmp 5), (.tmp 6)])⟩,
  ⟨(some 8), none, (.bin .geq (.tmp 7) (.const (Value.int .i64 0)))⟩,
  ⟨(some 4), none, (.mv (.tmp 8))⟩])
 .ret))

def cc49 : CC :=
 (.seq (.reg [⟨(some 2), none, (.box 2 (.tmp 0))⟩,
  ⟨(some 3), none, (.mv (.const (Value.bool false)))⟩])
 (.seq (.reg [⟨(some 4), none, (.fld 0 0 1 (.tmp 2))⟩,
  ⟨(some 5), none, (.ld 1 false (.tmp 4))⟩,
  ⟨(some 6), none, (.ld 1 false (.tmp 1))⟩,
  ⟨(some 7), none, (.call 50 [(.tmp 5), (.tmp 6)])⟩,
  ⟨(some 3), none, (.mv (.tmp 7))⟩])
 .ret))

def cc50 : CC :=
 (.seq (.reg [⟨(some 4), none, (.mv (.const (Value.bool false)))⟩])
 (.seq (.reg [⟨(some 5), none, (.mv (.tmp 0))⟩,
  ⟨(some 6), none, (.cvStr (.tmp 5))⟩,
  ⟨(some 7), none, (.mv (.tmp 1))⟩,
  ⟨(some 8), none, (.cvStr (.tmp 7))⟩,
  ⟨(some 9), none, (.bin .eql (.tmp 6) (.tmp 8))⟩,
  ⟨(some 4), none, (.mv (.tmp 9))⟩])
 .ret))

def cc60_0 : CC :=
 (.seq (.seq (.reg [⟨(some 92), none, (.mv (.tmp 12))⟩,
  ⟨(some 93), none, (.mv (.tmp 13))⟩,
  ⟨(some 94), none, (.bin .lss (.tmp 92) (.tmp 93))⟩])
 (.cond (.tmp 94) .skip
 (.exit 1)))
 (.blk 2 (.seq (.reg [⟨(some 96), none, (.ld 1 true (.tmp 4))⟩,
  ⟨(some 97), none, (.mv (.tmp 12))⟩,
  ⟨(some 98), none, (.mv (.tmp 13))⟩,
  ⟨(some 99), none, (.mv (.tmp 3))⟩,
  ⟨(some 100), none, (.bin .add (.tmp 99) (.const (Value.int .i64 1)))⟩,
  ⟨(some 101), none, (.call 60 [(.tmp 96), (.tmp 97), (.tmp 98), (.tmp 100)])⟩,
  ⟨(some 95), none, (.mv (.tmp 101))⟩,
  ⟨(some 102), none, (.ext (.tmp 95) 0)⟩,
  ⟨(some 103), none, (.ext (.tmp 95) 1)⟩,
  ⟨(some 104), none, (.ext (.tmp 95) 2)⟩,
  ⟨(some 15), none, (.new 5 (.st [(1, (.v (.int .i64 0))), (1, (.v (.int .i64 0))), (1, (.v (.bool false))), (1, (.v (.slice none 0 0))), (1, (.v (.slice none 0 0)))]))⟩,
  ⟨none, none, (.sto 5 (.tmp 15) (.tmp 102))⟩,
  ⟨(some 16), none, (.mv (.tmp 103))⟩,
  ⟨(some 17), none, (.mv (.tmp 104))⟩])
 (.seq (.seq (.reg [⟨(some 105), none, (.mv (.tmp 17))⟩,
  ⟨(some 106), none, (.ieq true (.tmp 105) (.const Value.nilIface))⟩])
 (.cond (.tmp 106) (.seq (.reg [⟨(some 107), none, (.bst [(1, (.v (.int .i64 0))), (1, (.v (.int .i64 0))), (1, (.v (.bool false))), (1, (.v (.slice none 0 0))), (1, (.v (.slice none 0 0)))] [])⟩,
  ⟨(some 108), none, (.mv (.tmp 17))⟩,
  ⟨none, none, (.sto 5 (.tmp 8) (.tmp 107))⟩,
  ⟨(some 9), none, (.mv (.const (Value.int .i64 0)))⟩,
  ⟨(some 10), none, (.mv (.tmp 108))⟩])
 .ret)
 .skip))
 (.seq (.reg [⟨(some 109), none, (.fld 4 4 1 (.tmp 11))⟩,
  ⟨(some 110), none, (.ld 1 false (.tmp 109))⟩,
  ⟨(some 111), none, (.ld 5 true (.tmp 15))⟩,
  ⟨(some 112), none, (.bsl 35 5 1 (.st [(1, (.v (.int .i64 0))), (1, (.v (.int .i64 0))), (1, (.v (.bool false))), (1, (.v (.slice none 0 0))), (1, (.v (.slice none 0 0)))]) [(0, (.tmp 111))])⟩,
  ⟨(some 113), none, (.app 35 5 72 (.tmp 110) (.tmp 112))⟩,
  ⟨(some 114), none, (.fld 4 4 1 (.tmp 11))⟩,
  ⟨none, none, (.sto 1 (.tmp 114) (.tmp 113))⟩])
 (.reg [⟨(some 115), none, (.mv (.tmp 16))⟩,
  ⟨(some 12), none, (.mv (.tmp 115))⟩]))))))

def cc60_1 : CC :=
 (.seq (.reg [⟨(some 116), none, (.ld 5 true (.tmp 11))⟩,
  ⟨(some 117), none, (.mv (.tmp 13))⟩,
  ⟨none, none, (.sto 5 (.tmp 8) (.tmp 116))⟩,
  ⟨(some 9), none, (.mv (.tmp 117))⟩,
  ⟨(some 10), none, (.mv (.const Value.nilIface))⟩])
 .ret)

def cc60 : CC :=
 (.seq (.reg [⟨(some 4), none, (.box 1 (.tmp 0))⟩,
  ⟨(some 8), none, (.new 5 (.st [(1, (.v (.int .i64 0))), (1, (.v (.int .i64 0))), (1, (.v (.bool false))), (1, (.v (.slice none 0 0))), (1, (.v (.slice none 0 0)))]))⟩,
  ⟨(some 9), none, (.mv (.const (Value.int .i64 0)))⟩,
  ⟨(some 10), none, (.mv (.const Value.nilIface))⟩])
 (.seq (.blk 0 (.seq (.reg [⟨(some 19), none, (.mv (.tmp 3))⟩,
  ⟨(some 20), none, (.bin .geq (.tmp 19) (.const (Value.int .i64 16)))⟩,
  ⟨(some 18), none, (.mv (.tmp 20))⟩])
 (.cond (.tmp 18) (.seq (.reg [⟨(some 21), none, (.bst [(1, (.v (.int .i64 0))), (1, (.v (.int .i64 0))), (1, (.v (.bool false))), (1, (.v (.slice none 0 0))), (1, (.v (.slice none 0 0)))] [])⟩,
  ⟨(some 22), none, (.mv (.tmp 1))⟩,
  ⟨(some 23), none, (.mki 40 (.const (Value.int .i64 9)))⟩,
  ⟨(some 24), none, (.call 61 [(.tmp 22), (.tmp 23)])⟩,
  ⟨none, none, (.sto 5 (.tmp 8) (.tmp 21))⟩,
  ⟨(some 9), none, (.mv (.const (Value.int .i64 0)))⟩,
  ⟨(some 10), none, (.mv (.tmp 24))⟩])
 .ret)
 (.seq (.reg [⟨(some 26), none, (.mv (.tmp 1))⟩,
  ⟨(some 27), none, (.mv (.tmp 2))⟩,
  ⟨(some 28), none, (.bin .geq (.tmp 26) (.tmp 27))⟩,
  ⟨(some 25), none, (.mv (.tmp 28))⟩])
 (.cond (.tmp 25) (.seq (.reg [⟨(some 29), none, (.bst [(1, (.v (.int .i64 0))), (1, (.v (.int .i64 0))), (1, (.v (.bool false))), (1, (.v (.slice none 0 0))), (1, (.v (.slice none 0 0)))] [])⟩,
  ⟨(some 30), none, (.mv (.tmp 1))⟩,
  ⟨(some 31), none, (.mki 40 (.const (Value.int .i64 6)))⟩,
  ⟨(some 32), none, (.call 61 [(.tmp 30), (.tmp 31)])⟩,
  ⟨none, none, (.sto 5 (.tmp 8) (.tmp 29))⟩,
  ⟨(some 9), none, (.mv (.const (Value.int .i64 0)))⟩,
  ⟨(some 10), none, (.mv (.tmp 32))⟩])
 .ret)
 (.seq (.reg [⟨(some 34), none, (.fld 0 0 1 (.tmp 4))⟩,
  ⟨(some 35), none, (.ld 1 false (.tmp 34))⟩,
  ⟨(some 36), none, (.mv (.tmp 1))⟩,
  ⟨(some 37), none, (.idxS 1 (.tmp 35) (.tmp 36))⟩,
  ⟨(some 38), none, (.ld 1 false (.tmp 37))⟩,
  ⟨(some 39), none, (.bin .and (.tmp 38) (.const (Value.int .u8 31)))⟩,
  ⟨(some 40), none, (.bin .eql (.tmp 39) (.const (Value.int .u8 31)))⟩,
  ⟨(some 33), none, (.mv (.tmp 40))⟩])
 (.cond (.tmp 33) (.seq (.reg [⟨(some 41), none, (.bst [(1, (.v (.int .i64 0))), (1, (.v (.int .i64 0))), (1, (.v (.bool false))), (1, (.v (.slice none 0 0))), (1, (.v (.slice none 0 0)))] [])⟩,
  ⟨(some 42), none, (.mv (.tmp 1))⟩,
  ⟨(some 43), none, (.mki 40 (.const (Value.int .i64 7)))⟩,
  ⟨(some 44), none, (.call 61 [(.tmp 42), (.tmp 43)])⟩,
  ⟨none, none, (.sto 5 (.tmp 8) (.tmp 41))⟩,
  ⟨(some 9), none, (.mv (.const (Value.int .i64 0)))⟩,
  ⟨(some 10), none, (.mv (.tmp 44))⟩])
 .ret)
 .skip)))))))
 (.seq (.drw [⟨(some 45), none, (.fld 0 0 1 (.tmp 4))⟩,
  ⟨(some 46), none, (.ld 1 false (.tmp 45))⟩,
  ⟨(some 47), none, (.mv (.tmp 1))⟩,
  ⟨(some 48), none, (.idxS 1 (.tmp 46) (.tmp 47))⟩,
  ⟨(some 49), none, (.ld 1 false (.tmp 48))⟩,
  ⟨(some 50), none, (.bin .shr (.tmp 49) (.const (Value.int .u64 6)))⟩,
  ⟨(some 51), none, (.cvI .i64 (.tmp 50))⟩,
  ⟨(some 52), none, (.fld 0 0 1 (.tmp 4))⟩,
  ⟨(some 53), none, (.ld 1 false (.tmp 52))⟩,
  ⟨(some 54), none, (.mv (.tmp 1))⟩,
  ⟨(some 55), none, (.idxS 1 (.tmp 53) (.tmp 54))⟩,
  ⟨(some 56), none, (.ld 1 false (.tmp 55))⟩,
  ⟨(some 57), none, (.bin .and (.tmp 56) (.const (Value.int .u8 31)))⟩,
  ⟨(some 58), none, (.cvI .i64 (.tmp 57))⟩,
  ⟨(some 59), none, (.fld 0 0 1 (.tmp 4))⟩,
  ⟨(some 60), none, (.ld 1 false (.tmp 59))⟩,
  ⟨(some 61), none, (.mv (.tmp 1))⟩,
  ⟨(some 62), none, (.idxS 1 (.tmp 60) (.tmp 61))⟩,
  ⟨(some 63), none, (.ld 1 false (.tmp 62))⟩,
  ⟨(some 64), none, (.bin .and (.tmp 63) (.const (Value.int .u8 32)))⟩,
  ⟨(some 65), none, (.bin .neq (.tmp 64) (.const (Value.int .u8 0)))⟩,
  ⟨(some 66), none, (.bst [(1, (.v (.int .i64 0))), (1, (.v (.int .i64 0))), (1, (.v (.bool false))), (1, (.v (.slice none 0 0))), (1, (.v (.slice none 0 0)))] [(0, (.tmp 51)), (1, (.tmp 58)), (2, (.tmp 65))])⟩,
  ⟨(some 11), none, (.new 5 (.st [(1, (.v (.int .i64 0))), (1, (.v (.int .i64 0))), (1, (.v (.bool false))), (1, (.v (.slice none 0 0))), (1, (.v (.slice none 0 0)))]))⟩,
  ⟨none, none, (.sto 5 (.tmp 11) (.tmp 66))⟩] [[], [0], [], [1, 2], [3], [4], [5], [], [7], [], [8, 9], [10], [11], [12], [], [14], [], [15, 16], [17], [18], [19], [6, 13, 20], [], [22, 21, 0, 1, 2, 3, 4, 5, 6, 7, 8, 9, 10, 11, 12, 13, 14, 15, 16, 17, 18, 19, 20, 21, 22]])
 (.seq (.reg [⟨(some 68), none, (.ld 1 true (.tmp 4))⟩,
  ⟨(some 69), none, (.mv (.tmp 1))⟩,
  ⟨(some 70), none, (.bin .add (.tmp 69) (.const (Value.int .i64 1)))⟩,
  ⟨(some 71), none, (.mv (.tmp 2))⟩,
  ⟨(some 72), none, (.call 108 [(.tmp 68), (.tmp 70), (.tmp 71)])⟩,
  ⟨(some 67), none, (.mv (.tmp 72))⟩,
  ⟨(some 73), none, (.ext (.tmp 67) 0)⟩,
  ⟨(some 74), none, (.ext (.tmp 67) 1)⟩,
  ⟨(some 75), none, (.ext (.tmp 67) 2)⟩,
  ⟨(some 12), none, (.mv (.tmp 73))⟩,
  ⟨(some 13), none, (.mv (.tmp 74))⟩,
  ⟨(some 14), none, (.mv (.tmp 75))⟩])
 (.seq (.seq (.reg [⟨(some 76), none, (.mv (.tmp 14))⟩,
  ⟨(some 77), none, (.ieq true (.tmp 76) (.const Value.nilIface))⟩])
 (.cond (.tmp 77) (.seq (.reg [⟨(some 78), none, (.bst [(1, (.v (.int .i64 0))), (1, (.v (.int .i64 0))), (1, (.v (.bool false))), (1, (.v (.slice none 0 0))), (1, (.v (.slice none 0 0)))] [])⟩,
  ⟨(some 79), none, (.mv (.tmp 14))⟩,
  ⟨none, none, (.sto 5 (.tmp 8) (.tmp 78))⟩,
  ⟨(some 9), none, (.mv (.const (Value.int .i64 0)))⟩,
  ⟨(some 10), none, (.mv (.tmp 79))⟩])
 .ret)
 .skip))
 (.seq (.seq (.reg [⟨(some 80), none, (.fld 2 2 1 (.tmp 11))⟩,
  ⟨(some 81), none, (.ld 1 false (.tmp 80))⟩,
  ⟨(some 82), none, (.un .not (.tmp 81))⟩])
 (.cond (.tmp 82) (.seq (.reg [⟨(some 83), none, (.fld 0 0 1 (.tmp 4))⟩,
  ⟨(some 84), none, (.ld 1 false (.tmp 83))⟩,
  ⟨(some 85), none, (.mv (.tmp 12))⟩,
  ⟨(some 86), none, (.mv (.tmp 13))⟩,
  ⟨(some 87), none, (.slc 1 (.tmp 84) (some (.tmp 85)) (some (.tmp 86)))⟩,
  ⟨(some 88), none, (.call 109 [(.tmp 87)])⟩,
  ⟨(some 89), none, (.fld 3 3 1 (.tmp 11))⟩,
  ⟨none, none, (.sto 1 (.tmp 89) (.tmp 88))⟩])
 (.seq (.reg [⟨(some 90), none, (.ld 5 true (.tmp 11))⟩,
  ⟨(some 91), none, (.mv (.tmp 13))⟩,
  ⟨none, none, (.sto 5 (.tmp 8) (.tmp 90))⟩,
  ⟨(some 9), none, (.mv (.tmp 91))⟩,
  ⟨(some 10), none, (.mv (.const Value.nilIface))⟩])
 .ret))
 .skip))
 (.seq (.blk 1 (.loop cc60_0))
 cc60_1)))))))

def cc61 : CC :=
 (.seq (.reg [⟨(some 4), none, (.mv (.const Value.nilIface))⟩])
 (.seq (.reg [⟨(some 5), none, (.mv (.tmp 0))⟩,
  ⟨(some 6), none, (.mv (.tmp 1))⟩,
  ⟨(some 7), none, (.bst [(1, (.v (.int .i64 0))), (1, (.v .nilIface))] [(0, (.tmp 5)), (1, (.tmp 6))])⟩,
  ⟨(some 8), none, (.box 2 (.tmp 7))⟩,
  ⟨(some 9), none, (.mki 77 (.tmp 8))⟩,
  ⟨(some 4), none, (.mv (.tmp 9))⟩])
 .ret))

def cc72_0 : CC :=
 (.seq (.reg [⟨(some 135), none, (.bin .lss (.tmp 134) (.tmp 133))⟩])
 (.seq (.cond (.tmp 135) .skip
 (.exit 0))
 (.seq (.blk 1 (.seq (.reg [⟨(some 136), none, (.idxS 5 (.tmp 132) (.tmp 134))⟩,
  ⟨(some 137), none, (.ld 5 true (.tmp 136))⟩,
  ⟨(some 17), none, (.new 5 (.st [(1, (.v (.int .i64 0))), (1, (.v (.int .i64 0))), (1, (.v (.bool false))), (1, (.v (.slice none 0 0))), (1, (.v (.slice none 0 0)))]))⟩,
  ⟨none, none, (.sto 5 (.tmp 17) (.tmp 137))⟩])
 (.seq (.seq (.reg [⟨(some 138), none, (.ld 5 true (.tmp 17))⟩,
  ⟨(some 139), none, (.call 113 [(.tmp 138), (.const (Value.int .i64 2))])⟩,
  ⟨(some 140), none, (.un .not (.tmp 139))⟩])
 (.cond (.tmp 140) (.seq (.reg [⟨(some 141), none, (.bst [(1, (.v (.slice none 0 0))), (1, (.v (.int .i64 0))), (1, (.v (.int .i64 0))), (1, (.v (.slice none 0 0))), (1, (.v (.slice none 0 0))), (12, (.st [(6, (.arr 1 [(.v (.int .u64 0)), (.v (.int .u64 0)), (.v (.int .u64 0)), (.v (.int .u64 0)), (.v (.int .u64 0)), (.v (.int .u64 0))])), (6, (.arr 1 [(.v (.int .u64 0)), (.v (.int .u64 0)), (.v (.int .u64 0)), (.v (.int .u64 0)), (.v (.int .u64 0)), (.v (.int .u64 0))]))]))] [])⟩,
  ⟨none, none, (.sto 17 (.tmp 2) (.tmp 141))⟩,
  ⟨(some 3), none, (.mv (.const (Value.bool false)))⟩])
 .ret)
 .skip))
 (.seq (.reg [⟨(some 143), none, (.fld 4 4 1 (.tmp 17))⟩,
  ⟨(some 144), none, (.ld 1 false (.tmp 143))⟩,
  ⟨(some 145), none, (.idxS 5 (.tmp 144) (.const (Value.int .i64 0)))⟩,
  ⟨(some 146), none, (.ld 5 true (.tmp 145))⟩,
  ⟨(some 147), none, (.call 117 [(.tmp 146)])⟩,
  ⟨(some 142), none, (.mv (.tmp 147))⟩,
  ⟨(some 148), none, (.ext (.tmp 142) 0)⟩,
  ⟨(some 149), none, (.ext (.tmp 142) 1)⟩,
  ⟨(some 18), none, (.mv (.tmp 148))⟩,
  ⟨(some 19), none, (.mv (.tmp 149))⟩])
 (.seq (.reg [⟨(some 151), none, (.fld 4 4 1 (.tmp 17))⟩,
  ⟨(some 152), none, (.ld 1 false (.tmp 151))⟩,
  ⟨(some 153), none, (.idxS 5 (.tmp 152) (.const (Value.int .i64 1)))⟩,
  ⟨(some 154), none, (.ld 5 true (.tmp 153))⟩,
  ⟨(some 155), none, (.call 115 [(.tmp 154)])⟩,
  ⟨(some 150), none, (.mv (.tmp 155))⟩,
  ⟨(some 156), none, (.ext (.tmp 150) 0)⟩,
  ⟨(some 157), none, (.ext (.tmp 150) 1)⟩,
  ⟨(some 20), none, (.mv (.tmp 156))⟩,
  ⟨(some 21), none, (.mv (.tmp 157))⟩])
 (.seq (.seq (.reg [⟨(some 158), none, (.mv (.tmp 19))⟩,
  ⟨(some 159), none, (.un .not (.tmp 158))⟩,
  ⟨(some 160), none, (.mv (.tmp 159))⟩,
  ⟨(some 161), (some (some 160, false)), (.mv (.tmp 21))⟩,
  ⟨(some 162), (some (some 160, false)), (.un .not (.tmp 161))⟩,
  ⟨(some 163), none, (.pick (.tmp 160) (.const (Value.bool true)) (.tmp 162))⟩])
 (.cond (.tmp 163) (.seq (.reg [⟨(some 164), none, (.bst [(1, (.v (.slice none 0 0))), (1, (.v (.int .i64 0))), (1, (.v (.int .i64 0))), (1, (.v (.slice none 0 0))), (1, (.v (.slice none 0 0))), (12, (.st [(6, (.arr 1 [(.v (.int .u64 0)), (.v (.int .u64 0)), (.v (.int .u64 0)), (.v (.int .u64 0)), (.v (.int .u64 0)), (.v (.int .u64 0))])), (6, (.arr 1 [(.v (.int .u64 0)), (.v (.int .u64 0)), (.v (.int .u64 0)), (.v (.int .u64 0)), (.v (.int .u64 0)), (.v (.int .u64 0))]))]))] [])⟩,
  ⟨none, none, (.sto 17 (.tmp 2) (.tmp 164))⟩,
  ⟨(some 3), none, (.mv (.const (Value.bool false)))⟩])
 .ret)
 .skip))
 (.reg [⟨(some 165), none, (.fld 3 3 1 (.tmp 9))⟩,
  ⟨(some 166), none, (.ld 1 false (.tmp 165))⟩,
  ⟨(some 167), none, (.mv (.tmp 18))⟩,
  ⟨(some 168), none, (.mv (.tmp 20))⟩,
  ⟨(some 169), none, (.bst [(1, (.v (.slice none 0 0))), (1, (.v (.int .i64 0)))] [(0, (.tmp 167)), (1, (.tmp 168))])⟩,
  ⟨(some 170), none, (.bsl 61 2 1 (.st [(1, (.v (.slice none 0 0))), (1, (.v (.int .i64 0)))]) [(0, (.tmp 169))])⟩,
  ⟨(some 171), none, (.app 61 2 32 (.tmp 166) (.tmp 170))⟩,
  ⟨(some 172), none, (.fld 3 3 1 (.tmp 9))⟩,
  ⟨none, none, (.sto 1 (.tmp 172) (.tmp 171))⟩])))))))
 (.reg [⟨(some 173), none, (.bin .add (.tmp 134) (.const (Value.int .i64 1)))⟩,
  ⟨(some 134), none, (.mv (.tmp 173))⟩]))))

def cc72_1 : CC :=
 (.seq (.reg [⟨(some 174), none, (.ld 17 true (.tmp 9))⟩,
  ⟨none, none, (.sto 17 (.tmp 2) (.tmp 174))⟩,
  ⟨(some 3), none, (.mv (.const (Value.bool true)))⟩])
 .ret)

def cc72 : CC :=
 (.seq (.reg [⟨(some 1), none, (.box 5 (.tmp 0))⟩,
  ⟨(some 2), none, (.new 17 (.st [(1, (.v (.slice none 0 0))), (1, (.v (.int .i64 0))), (1, (.v (.int .i64 0))), (1, (.v (.slice none 0 0))), (1, (.v (.slice none 0 0))), (12, (.st [(6, (.arr 1 [(.v (.int .u64 0)), (.v (.int .u64 0)), (.v (.int .u64 0)), (.v (.int .u64 0)), (.v (.int .u64 0)), (.v (.int .u64 0))])), (6, (.arr 1 [(.v (.int .u64 0)), (.v (.int .u64 0)), (.v (.int .u64 0)), (.v (.int .u64 0)), (.v (.int .u64 0)), (.v (.int .u64 0))]))]))]))⟩,
  ⟨(some 3), none, (.mv (.const (Value.bool false)))⟩])
 (.seq (.drw [⟨(some 23), none, (.ld 5 true (.tmp 1))⟩,
  ⟨(some 24), none, (.call 37 [])⟩,
  ⟨(some 25), none, (.bsl 35 5 1 (.st [(1, (.v (.int .i64 0))), (1, (.v (.int .i64 0))), (1, (.v (.bool false))), (1, (.v (.slice none 0 0))), (1, (.v (.slice none 0 0)))]) [(0, (.tmp 24))])⟩,
  ⟨(some 26), none, (.call 112 [(.tmp 23), (.tmp 25)])⟩,
  ⟨(some 22), none, (.mv (.tmp 26))⟩,
  ⟨(some 27), none, (.ext (.tmp 22) 0)⟩,
  ⟨(some 28), none, (.ext (.tmp 22) 1)⟩,
  ⟨(some 29), none, (.ext (.tmp 22) 2)⟩,
  ⟨(some 30), none, (.ext (.tmp 22) 3)⟩,
  ⟨(some 4), none, (.new 5 (.st [(1, (.v (.int .i64 0))), (1, (.v (.int .i64 0))), (1, (.v (.bool false))), (1, (.v (.slice none 0 0))), (1, (.v (.slice none 0 0)))]))⟩,
  ⟨(some 6), none, (.new 12 (.st [(6, (.arr 1 [(.v (.int .u64 0)), (.v (.int .u64 0)), (.v (.int .u64 0)), (.v (.int .u64 0)), (.v (.int .u64 0)), (.v (.int .u64 0))])), (6, (.arr 1 [(.v (.int .u64 0)), (.v (.int .u64 0)), (.v (.int .u64 0)), (.v (.int .u64 0)), (.v (.int .u64 0)), (.v (.int .u64 0))]))]))⟩,
  ⟨none, none, (.sto 5 (.tmp 4) (.tmp 27))⟩,
  ⟨(some 5), none, (.mv (.tmp 28))⟩,
  ⟨none, none, (.sto 12 (.tmp 6) (.tmp 29))⟩,
  ⟨(some 7), none, (.mv (.tmp 30))⟩] [[], [], [1], [0, 2, 1], [3], [4], [4], [4], [4], [], [], [9, 5, 3, 0, 1, 2, 3, 4, 5, 9, 10], [6, 11, 0, 1, 2, 3, 4, 5, 6, 9, 10, 11], [10, 7, 12, 0, 1, 2, 3, 4, 5, 6, 7, 9, 10, 11, 12], [8, 13, 0, 1, 2, 3, 4, 5, 6, 7, 8, 9, 10, 11, 12, 13]])
 (.seq (.seq (.reg [⟨(some 31), none, (.mv (.tmp 7))⟩,
  ⟨(some 32), none, (.un .not (.tmp 31))⟩,
  ⟨(some 33), none, (.mv (.tmp 32))⟩,
  ⟨(some 34), (some (some 33, false)), (.ld 5 true (.tmp 4))⟩,
  ⟨(some 35), (some (some 33, false)), (.call 113 [(.tmp 34), (.const (Value.int .i64 5))])⟩,
  ⟨(some 36), (some (some 33, false)), (.un .not (.tmp 35))⟩,
  ⟨(some 37), (some (some 33, false)), (.mv (.tmp 36))⟩,
  ⟨(some 38), (some (some 37, true)), (.ld 5 true (.tmp 4))⟩,
  ⟨(some 39), (some (some 37, true)), (.call 113 [(.tmp 38), (.const (Value.int .i64 6))])⟩,
  ⟨(some 40), (some (some 37, true)), (.un .not (.tmp 39))⟩,
  ⟨(some 41), (some (some 33, false)), (.pick (.tmp 37) (.tmp 40) (.const (Value.bool false)))⟩,
  ⟨(some 42), none, (.pick (.tmp 33) (.const (Value.bool true)) (.tmp 41))⟩])
 (.cond (.tmp 42) (.seq (.reg [⟨(some 43), none, (.bst [(1, (.v (.slice none 0 0))), (1, (.v (.int .i64 0))), (1, (.v (.int .i64 0))), (1, (.v (.slice none 0 0))), (1, (.v (.slice none 0 0))), (12, (.st [(6, (.arr 1 [(.v (.int .u64 0)), (.v (.int .u64 0)), (.v (.int .u64 0)), (.v (.int .u64 0)), (.v (.int .u64 0)), (.v (.int .u64 0))])), (6, (.arr 1 [(.v (.int .u64 0)), (.v (.int .u64 0)), (.v (.int .u64 0)), (.v (.int .u64 0)), (.v (.int .u64 0)), (.v (.int .u64 0))]))]))] [])⟩,
  ⟨none, none, (.sto 17 (.tmp 2) (.tmp 43))⟩,
  ⟨(some 3), none, (.mv (.const (Value.bool false)))⟩])
 .ret)
 .skip))
 (.seq (.reg [⟨(some 44), none, (.fld 4 4 1 (.tmp 4))⟩,
  ⟨(some 45), none, (.ld 1 false (.tmp 44))⟩,
  ⟨(some 8), none, (.mv (.tmp 45))⟩])
 (.seq (.reg [⟨(some 46), none, (.mv (.tmp 5))⟩,
  ⟨(some 47), none, (.ld 12 true (.tmp 6))⟩,
  ⟨(some 48), none, (.bst [(1, (.v (.slice none 0 0))), (1, (.v (.int .i64 0))), (1, (.v (.int .i64 0))), (1, (.v (.slice none 0 0))), (1, (.v (.slice none 0 0))), (12, (.st [(6, (.arr 1 [(.v (.int .u64 0)), (.v (.int .u64 0)), (.v (.int .u64 0)), (.v (.int .u64 0)), (.v (.int .u64 0)), (.v (.int .u64 0))])), (6, (.arr 1 [(.v (.int .u64 0)), (.v (.int .u64 0)), (.v (.int .u64 0)), (.v (.int .u64 0)), (.v (.int .u64 0)), (.v (.int .u64 0))]))]))] [(4, (.tmp 46)), (5, (.tmp 47))])⟩,
  ⟨(some 9), none, (.new 17 (.st [(1, (.v (.slice none 0 0))), (1, (.v (.int .i64 0))), (1, (.v (.int .i64 0))), (1, (.v (.slice none 0 0))), (1, (.v (.slice none 0 0))), (12, (.st [(6, (.arr 1 [(.v (.int .u64 0)), (.v (.int .u64 0)), (.v (.int .u64 0)), (.v (.int .u64 0)), (.v (.int .u64 0)), (.v (.int .u64 0))])), (6, (.arr 1 [(.v (.int .u64 0)), (.v (.int .u64 0)), (.v (.int .u64 0)), (.v (.int .u64 0)), (.v (.int .u64 0)), (.v (.int .u64 0))]))]))]))⟩,
  ⟨none, none, (.sto 17 (.tmp 9) (.tmp 48))⟩])
 (.seq (.reg [⟨(some 50), none, (.mv (.tmp 8))⟩,
  ⟨(some 51), none, (.idxS 5 (.tmp 50) (.const (Value.int .i64 2)))⟩,
  ⟨(some 52), none, (.ld 5 true (.tmp 51))⟩,
  ⟨(some 53), none, (.call 114 [(.tmp 52)])⟩,
  ⟨(some 49), none, (.mv (.tmp 53))⟩,
  ⟨(some 54), none, (.ext (.tmp 49) 0)⟩,
  ⟨(some 55), none, (.ext (.tmp 49) 1)⟩,
  ⟨(some 10), none, (.mv (.tmp 54))⟩,
  ⟨(some 11), none, (.mv (.tmp 55))⟩])
 (.seq (.reg [⟨(some 57), none, (.mv (.tmp 8))⟩,
  ⟨(some 58), none, (.idxS 5 (.tmp 57) (.const (Value.int .i64 3)))⟩,
  ⟨(some 59), none, (.ld 5 true (.tmp 58))⟩,
  ⟨(some 60), none, (.call 115 [(.tmp 59)])⟩,
  ⟨(some 56), none, (.mv (.tmp 60))⟩,
  ⟨(some 61), none, (.ext (.tmp 56) 0)⟩,
  ⟨(some 62), none, (.ext (.tmp 56) 1)⟩,
  ⟨(some 12), none, (.mv (.tmp 61))⟩,
  ⟨(some 13), none, (.mv (.tmp 62))⟩])
 (.seq (.reg [⟨(some 64), none, (.mv (.tmp 8))⟩,
  ⟨(some 65), none, (.idxS 5 (.tmp 64) (.const (Value.int .i64 4)))⟩,
  ⟨(some 66), none, (.ld 5 true (.tmp 65))⟩,
  ⟨(some 67), none, (.call 115 [(.tmp 66)])⟩,
  ⟨(some 63), none, (.mv (.tmp 67))⟩,
  ⟨(some 68), none, (.ext (.tmp 63) 0)⟩,
  ⟨(some 69), none, (.ext (.tmp 63) 1)⟩,
  ⟨(some 14), none, (.mv (.tmp 68))⟩,
  ⟨(some 15), none, (.mv (.tmp 69))⟩])
 (.seq (.seq (.drw [⟨(some 70), none, (.mv (.tmp 11))⟩,
  ⟨(some 71), none, (.ieq true (.tmp 70) (.const Value.nilIface))⟩,
  ⟨(some 72), none, (.mv (.tmp 71))⟩,
  ⟨(some 73), (some (some 72, false)), (.mv (.tmp 13))⟩,
  ⟨(some 74), (some (some 72, false)), (.un .not (.tmp 73))⟩,
  ⟨(some 75), none, (.pick (.tmp 72) (.const (Value.bool true)) (.tmp 74))⟩,
  ⟨(some 76), none, (.mv (.tmp 75))⟩,
  ⟨(some 77), (some (some 76, false)), (.mv (.tmp 15))⟩,
  ⟨(some 78), (some (some 76, false)), (.un .not (.tmp 77))⟩,
  ⟨(some 79), none, (.pick (.tmp 76) (.const (Value.bool true)) (.tmp 78))⟩,
  ⟨(some 80), none, (.mv (.tmp 79))⟩,
  ⟨(some 81), (some (some 80, false)), (.mv (.tmp 8))⟩,
  ⟨(some 82), (some (some 80, false)), (.idxS 5 (.tmp 81) (.const (Value.int .i64 0)))⟩,
  ⟨(some 83), (some (some 80, false)), (.ld 5 true (.tmp 82))⟩,
  ⟨(some 84), (some (some 80, false)), (.call 36 [])⟩,
  ⟨(some 85), (some (some 80, false)), (.call 116 [(.tmp 83), (.tmp 84)])⟩,
  ⟨(some 86), (some (some 80, false)), (.un .not (.tmp 85))⟩,
  ⟨(some 87), none, (.pick (.tmp 80) (.const (Value.bool true)) (.tmp 86))⟩,
  ⟨(some 88), none, (.mv (.tmp 87))⟩,
  ⟨(some 89), (some (some 88, false)), (.mv (.tmp 8))⟩,
  ⟨(some 90), (some (some 88, false)), (.idxS 5 (.tmp 89) (.const (Value.int .i64 1)))⟩,
  ⟨(some 91), (some (some 88, false)), (.ld 5 true (.tmp 90))⟩,
  ⟨(some 92), (some (some 88, false)), (.call 37 [])⟩,
  ⟨(some 93), (some (some 88, false)), (.call 116 [(.tmp 91), (.tmp 92)])⟩,
  ⟨(some 94), (some (some 88, false)), (.un .not (.tmp 93))⟩,
  ⟨(some 95), none, (.pick (.tmp 88) (.const (Value.bool true)) (.tmp 94))⟩] [[], [0], [1], [2], [3, 2], [2, 4], [5, 2], [6], [7, 6], [6, 8], [9, 6], [10], [11, 10], [12, 10], [10, 10], [13, 14, 14, 10], [15, 10], [10, 16], [17, 15], [18], [19, 18], [20, 18], [18, 18], [21, 22, 22, 18], [23, 18], [18, 24]])
 (.cond (.tmp 95) (.seq (.reg [⟨(some 96), none, (.bst [(1, (.v (.slice none 0 0))), (1, (.v (.int .i64 0))), (1, (.v (.int .i64 0))), (1, (.v (.slice none 0 0))), (1, (.v (.slice none 0 0))), (12, (.st [(6, (.arr 1 [(.v (.int .u64 0)), (.v (.int .u64 0)), (.v (.int .u64 0)), (.v (.int .u64 0)), (.v (.int .u64 0)), (.v (.int .u64 0))])), (6, (.arr 1 [(.v (.int .u64 0)), (.v (.int .u64 0)), (.v (.int .u64 0)), (.v (.int .u64 0)), (.v (.int .u64 0)), (.v (.int .u64 0))]))]))] [])⟩,
  ⟨none, none, (.sto 17 (.tmp 2) (.tmp 96))⟩,
  ⟨(some 3), none, (.mv (.const (Value.bool false)))⟩])
 .ret)
 .skip))
 (.seq (.reg [⟨(some 97), none, (.mv (.tmp 10))⟩,
  ⟨(some 98), none, (.mv (.tmp 12))⟩,
  ⟨(some 99), none, (.mv (.tmp 14))⟩,
  ⟨(some 100), none, (.fld 0 0 1 (.tmp 9))⟩,
  ⟨none, none, (.sto 1 (.tmp 100) (.tmp 97))⟩,
  ⟨(some 101), none, (.fld 1 1 1 (.tmp 9))⟩,
  ⟨none, none, (.sto 1 (.tmp 101) (.tmp 98))⟩,
  ⟨(some 102), none, (.fld 2 2 1 (.tmp 9))⟩,
  ⟨none, none, (.sto 1 (.tmp 102) (.tmp 99))⟩])
 (.seq (.seq (.reg [⟨(some 103), none, (.mv (.tmp 8))⟩,
  ⟨(some 104), none, (.len (.tmp 103))⟩,
  ⟨(some 105), none, (.bin .eql (.tmp 104) (.const (Value.int .i64 5)))⟩])
 (.cond (.tmp 105) (.seq (.reg [⟨(some 106), none, (.ld 17 true (.tmp 9))⟩,
  ⟨none, none, (.sto 17 (.tmp 2) (.tmp 106))⟩,
  ⟨(some 3), none, (.mv (.const (Value.bool true)))⟩])
 .ret)
 .skip))
 (.seq (.seq (.reg [⟨(some 107), none, (.mv (.tmp 8))⟩,
  ⟨(some 108), none, (.idxS 5 (.tmp 107) (.const (Value.int .i64 5)))⟩,
  ⟨(some 109), none, (.ld 5 true (.tmp 108))⟩,
  ⟨(some 110), none, (.call 113 [(.tmp 109), (.const (Value.int .i64 (-1)))])⟩,
  ⟨(some 111), none, (.un .not (.tmp 110))⟩,
  ⟨(some 112), none, (.mv (.tmp 111))⟩,
  ⟨(some 113), (some (some 112, false)), (.mv (.tmp 8))⟩,
  ⟨(some 114), (some (some 112, false)), (.idxS 5 (.tmp 113) (.const (Value.int .i64 5)))⟩,
  ⟨(some 115), (some (some 112, false)), (.fld 4 4 1 (.tmp 114))⟩,
  ⟨(some 116), (some (some 112, false)), (.ld 1 false (.tmp 115))⟩,
  ⟨(some 117), (some (some 112, false)), (.len (.tmp 116))⟩,
  ⟨(some 118), (some (some 112, false)), (.bin .lss (.tmp 117) (.const (Value.int .i64 1)))⟩,
  ⟨(some 119), none, (.pick (.tmp 112) (.const (Value.bool true)) (.tmp 118))⟩,
  ⟨(some 120), none, (.mv (.tmp 119))⟩,
  ⟨(some 121), (some (some 120, false)), (.mv (.tmp 8))⟩,
  ⟨(some 122), (some (some 120, false)), (.idxS 5 (.tmp 121) (.const (Value.int .i64 5)))⟩,
  ⟨(some 123), (some (some 120, false)), (.fld 4 4 1 (.tmp 122))⟩,
  ⟨(some 124), (some (some 120, false)), (.ld 1 false (.tmp 123))⟩,
  ⟨(some 125), (some (some 120, false)), (.len (.tmp 124))⟩,
  ⟨(some 126), (some (some 120, false)), (.bin .gtr (.tmp 125) (.const (Value.int .i64 64)))⟩,
  ⟨(some 127), none, (.pick (.tmp 120) (.const (Value.bool true)) (.tmp 126))⟩])
 (.cond (.tmp 127) (.seq (.reg [⟨(some 128), none, (.bst [(1, (.v (.slice none 0 0))), (1, (.v (.int .i64 0))), (1, (.v (.int .i64 0))), (1, (.v (.slice none 0 0))), (1, (.v (.slice none 0 0))), (12, (.st [(6, (.arr 1 [(.v (.int .u64 0)), (.v (.int .u64 0)), (.v (.int .u64 0)), (.v (.int .u64 0)), (.v (.int .u64 0)), (.v (.int .u64 0))])), (6, (.arr 1 [(.v (.int .u64 0)), (.v (.int .u64 0)), (.v (.int .u64 0)), (.v (.int .u64 0)), (.v (.int .u64 0)), (.v (.int .u64 0))]))]))] [])⟩,
  ⟨none, none, (.sto 17 (.tmp 2) (.tmp 128))⟩,
  ⟨(some 3), none, (.mv (.const (Value.bool false)))⟩])
 .ret)
 .skip))
 (.seq (.seq (.reg [⟨(some 129), none, (.mv (.tmp 8))⟩,
  ⟨(some 130), none, (.idxS 5 (.tmp 129) (.const (Value.int .i64 5)))⟩,
  ⟨(some 131), none, (.fld 4 4 1 (.tmp 130))⟩,
  ⟨(some 132), none, (.ld 1 false (.tmp 131))⟩,
  ⟨(some 133), none, (.len (.tmp 132))⟩,
  ⟨(some 134), none, (.mv (.const (Value.int .i64 0)))⟩])
 (.blk 0 (.loop cc72_0)))
 cc72_1)))))))))))))

def cc73 : CC :=
 (.seq (.reg [⟨(some 2), none, (.new 5 (.st [(1, (.v (.int .i64 0))), (1, (.v (.int .i64 0))), (1, (.v (.bool false))), (1, (.v (.slice none 0 0))), (1, (.v (.slice none 0 0)))]))⟩])
 (.seq (.reg [⟨(some 3), none, (.mv (.tmp 0))⟩,
  ⟨(some 4), none, (.bst [(1, (.v (.int .i64 0))), (1, (.v (.int .i64 0))), (1, (.v (.bool false))), (1, (.v (.slice none 0 0))), (1, (.v (.slice none 0 0)))] [(1, (.const (Value.int .i64 16))), (2, (.const (Value.bool true))), (4, (.tmp 3))])⟩,
  ⟨none, none, (.sto 5 (.tmp 2) (.tmp 4))⟩])
 .ret))

def cc74 : CC :=
 (.seq (.reg [⟨(some 2), none, (.mv (.const (Value.string ⟨#[]⟩)))⟩,
  ⟨(some 3), none, (.mv (.const Value.nilIface))⟩])
 (.seq (.blk 0 (.seq (.reg [⟨(some 5), none, (.mv (.tmp 0))⟩,
  ⟨(some 6), none, (.len (.tmp 5))⟩,
  ⟨(some 7), none, (.bin .gtr (.tmp 6) (.const (Value.int .i64 64)))⟩,
  ⟨(some 4), none, (.mv (.tmp 7))⟩])
 (.cond (.tmp 4) (.seq (.reg [⟨(some 8), none, (.mki 40 (.const (Value.int .i64 2)))⟩,
  ⟨(some 2), none, (.mv (.const (Value.string ⟨#[]⟩)))⟩,
  ⟨(some 3), none, (.mv (.tmp 8))⟩])
 .ret)
 (.seq (.reg [⟨(some 10), none, (.mv (.tmp 0))⟩,
  ⟨(some 11), none, (.len (.tmp 10))⟩,
  ⟨(some 12), none, (.bin .eql (.tmp 11) (.const (Value.int .i64 0)))⟩,
  ⟨(some 13), none, (.mv (.tmp 12))⟩,
  ⟨(some 14), (some (some 13, false)), (.mv (.tmp 0))⟩,
  ⟨(some 15), (some (some 13, false)), (.call 118 [(.tmp 14), (.func 119)])⟩,
  ⟨(some 16), none, (.pick (.tmp 13) (.const (Value.bool true)) (.tmp 15))⟩,
  ⟨(some 9), none, (.mv (.tmp 16))⟩])
 (.cond (.tmp 9) (.seq (.reg [⟨(some 17), none, (.mki 40 (.const (Value.int .i64 7)))⟩,
  ⟨(some 2), none, (.mv (.const (Value.string ⟨#[]⟩)))⟩,
  ⟨(some 3), none, (.mv (.tmp 17))⟩])
 .ret)
 .skip)))))
 (.seq (.reg [⟨(some 18), none, (.mv (.tmp 0))⟩,
  ⟨(some 19), none, (.cvStr (.tmp 18))⟩,
  ⟨(some 2), none, (.mv (.tmp 19))⟩,
  ⟨(some 3), none, (.mv (.const Value.nilIface))⟩])
 .ret)))

def cc75 : CC :=
 (.seq (.reg [⟨(some 2), none, (.mv (.const (Value.bool false)))⟩])
 (.seq (.reg [⟨(some 3), none, (.mv (.tmp 0))⟩,
  ⟨(some 4), none, (.bin .eql (.tmp 3) (.const (Value.int .i64 3)))⟩,
  ⟨(some 5), none, (.mv (.tmp 4))⟩,
  ⟨(some 6), (some (some 5, false)), (.mv (.tmp 0))⟩,
  ⟨(some 7), (some (some 5, false)), (.bin .eql (.tmp 6) (.const (Value.int .i64 6)))⟩,
  ⟨(some 8), none, (.pick (.tmp 5) (.const (Value.bool true)) (.tmp 7))⟩,
  ⟨(some 9), none, (.mv (.tmp 8))⟩,
  ⟨(some 10), (some (some 9, false)), (.mv (.tmp 0))⟩,
  ⟨(some 11), (some (some 9, false)), (.bin .eql (.tmp 10) (.const (Value.int .i64 10)))⟩,
  ⟨(some 12), none, (.pick (.tmp 9) (.const (Value.bool true)) (.tmp 11))⟩,
  ⟨(some 13), none, (.mv (.tmp 12))⟩,
  ⟨(some 14), (some (some 13, false)), (.mv (.tmp 0))⟩,
  ⟨(some 15), (some (some 13, false)), (.bin .eql (.tmp 14) (.const (Value.int .i64 11)))⟩,
  ⟨(some 16), none, (.pick (.tmp 13) (.const (Value.bool true)) (.tmp 15))⟩,
  ⟨(some 2), none, (.mv (.tmp 16))⟩])
 .ret))

def cc76_0 : CC :=
 (.seq (.seq (.reg [⟨(some 38), none, (.mv (.tmp 7))⟩,
  ⟨(some 39), none, (.bin .add (.tmp 38) (.const (Value.int .i64 1)))⟩,
  ⟨(some 40), none, (.call 120 [(.tmp 39)])⟩,
  ⟨(some 41), none, (.mv (.tmp 5))⟩,
  ⟨(some 42), none, (.bin .leq (.tmp 40) (.tmp 41))⟩])
 (.cond (.tmp 42) .skip
 (.exit 0)))
 (.blk 1 (.reg [⟨(some 43), none, (.mv (.tmp 7))⟩,
  ⟨(some 44), none, (.bin .add (.tmp 43) (.const (Value.int .i64 1)))⟩,
  ⟨(some 7), none, (.mv (.tmp 44))⟩])))

def cc76_2 : CC :=
 (.seq (.seq (.reg [⟨(some 49), none, (.mv (.tmp 5))⟩,
  ⟨(some 50), none, (.mv (.tmp 7))⟩,
  ⟨(some 51), none, (.mv (.tmp 8))⟩,
  ⟨(some 52), none, (.call 121 [(.tmp 50), (.tmp 51)])⟩,
  ⟨(some 53), none, (.bin .geq (.tmp 49) (.tmp 52))⟩])
 (.cond (.tmp 53) .skip
 (.exit 2)))
 (.blk 3 (.seq (.reg [⟨(some 54), none, (.mv (.tmp 5))⟩,
  ⟨(some 55), none, (.mv (.tmp 7))⟩,
  ⟨(some 56), none, (.mv (.tmp 8))⟩,
  ⟨(some 57), none, (.call 121 [(.tmp 55), (.tmp 56)])⟩,
  ⟨(some 58), none, (.bin .sub (.tmp 54) (.tmp 57))⟩,
  ⟨(some 5), none, (.mv (.tmp 58))⟩])
 (.reg [⟨(some 59), none, (.mv (.tmp 8))⟩,
  ⟨(some 60), none, (.bin .add (.tmp 59) (.const (Value.int .i64 1)))⟩,
  ⟨(some 8), none, (.mv (.tmp 60))⟩]))))

def cc76_4 : CC :=
 (.seq (.reg [⟨(some 82), none, (.bin .lss (.tmp 81) (.tmp 80))⟩])
 (.seq (.cond (.tmp 82) .skip
 (.exit 4))
 (.seq (.blk 5 (.seq (.reg [⟨(some 83), none, (.idxS 1 (.tmp 79) (.tmp 81))⟩,
  ⟨(some 84), none, (.ld 1 false (.tmp 83))⟩,
  ⟨(some 12), none, (.mv (.tmp 84))⟩])
 (.reg [⟨(some 85), none, (.mv (.tmp 10))⟩,
  ⟨(some 86), none, (.mv (.tmp 12))⟩,
  ⟨(some 87), none, (.call 122 [(.tmp 86)])⟩,
  ⟨(some 88), none, (.app 5 1 1 (.tmp 85) (.tmp 87))⟩,
  ⟨(some 10), none, (.mv (.tmp 88))⟩])))
 (.reg [⟨(some 89), none, (.bin .add (.tmp 81) (.const (Value.int .i64 1)))⟩,
  ⟨(some 81), none, (.mv (.tmp 89))⟩]))))

def cc76_5 : CC :=
 (.seq (.reg [⟨(some 90), none, (.mv (.tmp 9))⟩,
  ⟨(some 91), none, (.mv (.tmp 10))⟩,
  ⟨(some 92), none, (.bsl 5 1 1 (.v (.int .u8 0)) [(0, (.const (Value.int .u8 90)))])⟩,
  ⟨(some 93), none, (.app 5 1 1 (.tmp 91) (.tmp 92))⟩,
  ⟨(some 2), none, (.mv (.tmp 90))⟩,
  ⟨(some 3), none, (.mv (.tmp 93))⟩,
  ⟨(some 4), none, (.mv (.const Value.nilIface))⟩])
 .ret)

def cc76_3 : CC :=
 (.seq (.reg [⟨(some 61), none, (.bsl 5 1 0 (.v (.int .u8 0)) [])⟩,
  ⟨(some 9), none, (.mv (.const (Value.int .i64 23)))⟩,
  ⟨(some 10), none, (.mv (.tmp 61))⟩])
 (.seq (.seq (.reg [⟨(some 62), none, (.mv (.tmp 7))⟩,
  ⟨(some 63), none, (.bin .geq (.tmp 62) (.const (Value.int .i64 2050)))⟩])
 (.cond (.tmp 63) (.reg [⟨(some 64), none, (.mv (.tmp 7))⟩,
  ⟨(some 65), none, (.bin .quo (.tmp 64) (.const (Value.int .i64 100)))⟩,
  ⟨(some 66), none, (.call 122 [(.tmp 65)])⟩,
  ⟨(some 9), none, (.mv (.const (Value.int .i64 24)))⟩,
  ⟨(some 10), none, (.mv (.tmp 66))⟩])
 .skip))
 (.seq (.seq (.reg [⟨(some 67), none, (.mv (.tmp 7))⟩,
  ⟨(some 68), none, (.bin .rem (.tmp 67) (.const (Value.int .i64 100)))⟩,
  ⟨(some 69), none, (.mv (.tmp 8))⟩,
  ⟨(some 70), none, (.mv (.tmp 5))⟩,
  ⟨(some 71), none, (.bin .add (.tmp 70) (.const (Value.int .i64 1)))⟩,
  ⟨(some 72), none, (.mv (.tmp 6))⟩,
  ⟨(some 73), none, (.bin .quo (.tmp 72) (.const (Value.int .i64 3600)))⟩,
  ⟨(some 74), none, (.mv (.tmp 6))⟩,
  ⟨(some 75), none, (.bin .quo (.tmp 74) (.const (Value.int .i64 60)))⟩,
  ⟨(some 76), none, (.bin .rem (.tmp 75) (.const (Value.int .i64 60)))⟩,
  ⟨(some 77), none, (.mv (.tmp 6))⟩,
  ⟨(some 78), none, (.bin .rem (.tmp 77) (.const (Value.int .i64 60)))⟩,
  ⟨(some 79), none, (.bsl 3 1 6 (.v (.int .i64 0)) [(0, (.tmp 68)), (1, (.tmp 69)), (2, (.tmp 71)), (3, (.tmp 73)), (4, (.tmp 76)), (5, (.tmp 78))])⟩,
  ⟨(some 80), none, (.len (.tmp 79))⟩,
  ⟨(some 81), none, (.mv (.const (Value.int .i64 0)))⟩])
 (.blk 4 (.loop cc76_4)))
 cc76_5)))

def cc76_1 : CC :=
 (.seq (.reg [⟨(some 45), none, (.mv (.tmp 5))⟩,
  ⟨(some 46), none, (.mv (.tmp 7))⟩,
  ⟨(some 47), none, (.call 120 [(.tmp 46)])⟩,
  ⟨(some 48), none, (.bin .sub (.tmp 45) (.tmp 47))⟩,
  ⟨(some 5), none, (.mv (.tmp 48))⟩])
 (.seq (.reg [⟨(some 8), none, (.mv (.const (Value.int .i64 1)))⟩])
 (.seq (.blk 2 (.loop cc76_2))
 cc76_3)))

def cc76 : CC :=
 (.seq (.reg [⟨(some 2), none, (.mv (.const (Value.int .i64 0)))⟩,
  ⟨(some 3), none, (.mv (.const (Value.slice none 0 0)))⟩,
  ⟨(some 4), none, (.mv (.const Value.nilIface))⟩])
 (.seq (.seq (.reg [⟨(some 13), none, (.mv (.tmp 0))⟩,
  ⟨(some 14), none, (.call 120 [(.const (Value.int .i64 1950))])⟩,
  ⟨(some 15), none, (.bin .mul (.tmp 14) (.const (Value.int .i64 86400)))⟩,
  ⟨(some 16), none, (.bin .lss (.tmp 13) (.tmp 15))⟩,
  ⟨(some 17), none, (.mv (.tmp 16))⟩,
  ⟨(some 18), (some (some 17, false)), (.mv (.tmp 0))⟩,
  ⟨(some 19), (some (some 17, false)), (.call 120 [(.const (Value.int .i64 10000))])⟩,
  ⟨(some 20), (some (some 17, false)), (.bin .mul (.tmp 19) (.const (Value.int .i64 86400)))⟩,
  ⟨(some 21), (some (some 17, false)), (.bin .geq (.tmp 18) (.tmp 20))⟩,
  ⟨(some 22), none, (.pick (.tmp 17) (.const (Value.bool true)) (.tmp 21))⟩])
 (.cond (.tmp 22) (.seq (.reg [⟨(some 23), none, (.mki 40 (.const (Value.int .i64 3)))⟩,
  ⟨(some 2), none, (.mv (.const (Value.int .i64 0)))⟩,
  ⟨(some 3), none, (.mv (.const (Value.slice none 0 0)))⟩,
  ⟨(some 4), none, (.mv (.tmp 23))⟩])
 .ret)
 .skip))
 (.seq (.reg [⟨(some 24), none, (.mv (.tmp 0))⟩,
  ⟨(some 25), none, (.bin .quo (.tmp 24) (.const (Value.int .i64 86400)))⟩,
  ⟨(some 26), none, (.mv (.tmp 0))⟩,
  ⟨(some 27), none, (.bin .rem (.tmp 26) (.const (Value.int .i64 86400)))⟩,
  ⟨(some 5), none, (.mv (.tmp 25))⟩,
  ⟨(some 6), none, (.mv (.tmp 27))⟩])
 (.seq (.seq (.reg [⟨(some 28), none, (.mv (.tmp 6))⟩,
  ⟨(some 29), none, (.bin .lss (.tmp 28) (.const (Value.int .i64 0)))⟩])
 (.cond (.tmp 29) (.reg [⟨(some 30), none, (.mv (.tmp 5))⟩,
  ⟨(some 31), none, (.bin .sub (.tmp 30) (.const (Value.int .i64 1)))⟩,
  ⟨(some 32), none, (.mv (.tmp 6))⟩,
  ⟨(some 33), none, (.bin .add (.tmp 32) (.const (Value.int .i64 86400)))⟩,
  ⟨(some 5), none, (.mv (.tmp 31))⟩,
  ⟨(some 6), none, (.mv (.tmp 33))⟩])
 .skip))
 (.seq (.reg [⟨(some 34), none, (.mv (.tmp 5))⟩,
  ⟨(some 35), none, (.bin .quo (.tmp 34) (.const (Value.int .i64 366)))⟩,
  ⟨(some 36), none, (.bin .add (.const (Value.int .i64 1970)) (.tmp 35))⟩,
  ⟨(some 37), none, (.bin .sub (.tmp 36) (.const (Value.int .i64 1)))⟩,
  ⟨(some 7), none, (.mv (.tmp 37))⟩])
 (.seq (.blk 0 (.loop cc76_0))
 cc76_1))))))

def cc77 : CC :=
 (.seq (.reg [⟨(some 4), none, (.new 5 (.st [(1, (.v (.int .i64 0))), (1, (.v (.int .i64 0))), (1, (.v (.bool false))), (1, (.v (.slice none 0 0))), (1, (.v (.slice none 0 0)))]))⟩])
 (.seq (.reg [⟨(some 5), none, (.mv (.tmp 0))⟩,
  ⟨(some 6), none, (.mv (.tmp 1))⟩,
  ⟨(some 7), none, (.bst [(1, (.v (.int .i64 0))), (1, (.v (.int .i64 0))), (1, (.v (.bool false))), (1, (.v (.slice none 0 0))), (1, (.v (.slice none 0 0)))] [(1, (.tmp 5)), (3, (.tmp 6))])⟩,
  ⟨none, none, (.sto 5 (.tmp 4) (.tmp 7))⟩])
 .ret))

def cc78 : CC :=
 (.seq (.reg [⟨(some 2), none, (.new 5 (.st [(1, (.v (.int .i64 0))), (1, (.v (.int .i64 0))), (1, (.v (.bool false))), (1, (.v (.slice none 0 0))), (1, (.v (.slice none 0 0)))]))⟩])
 (.seq (.reg [⟨(some 6), none, (.mv (.tmp 0))⟩,
  ⟨(some 7), none, (.call 123 [(.tmp 6)])⟩,
  ⟨(some 5), none, (.mv (.tmp 7))⟩,
  ⟨(some 8), none, (.ext (.tmp 5) 0)⟩,
  ⟨(some 9), none, (.ext (.tmp 5) 1)⟩,
  ⟨(some 3), none, (.mv (.tmp 8))⟩,
  ⟨(some 4), none, (.mv (.tmp 9))⟩])
 (.seq (.seq (.reg [⟨(some 10), none, (.mv (.tmp 4))⟩,
  ⟨(some 11), none, (.ieq true (.tmp 10) (.const Value.nilIface))⟩])
 (.cond (.tmp 11) (.seq (.reg [⟨(some 12), none, (.bst [(1, (.v (.int .i64 0))), (1, (.v (.int .i64 0))), (1, (.v (.bool false))), (1, (.v (.slice none 0 0))), (1, (.v (.slice none 0 0)))] [])⟩,
  ⟨none, none, (.sto 5 (.tmp 2) (.tmp 12))⟩])
 .ret)
 .skip))
 (.seq (.reg [⟨(some 13), none, (.mv (.tmp 3))⟩,
  ⟨(some 14), none, (.call 77 [(.const (Value.int .i64 6)), (.tmp 13)])⟩,
  ⟨none, none, (.sto 5 (.tmp 2) (.tmp 14))⟩])
 .ret))))

def cc79_0 : CC :=
 (.seq (.seq (.reg [⟨(some 4), none, (.mv (.tmp 0))⟩,
  ⟨(some 5), none, (.len (.tmp 4))⟩,
  ⟨(some 6), none, (.bin .gtr (.tmp 5) (.const (Value.int .i64 0)))⟩,
  ⟨(some 7), none, (.mv (.tmp 6))⟩,
  ⟨(some 8), (some (some 7, true)), (.mv (.tmp 0))⟩,
  ⟨(some 9), (some (some 7, true)), (.idxS 1 (.tmp 8) (.const (Value.int .i64 0)))⟩,
  ⟨(some 10), (some (some 7, true)), (.ld 1 false (.tmp 9))⟩,
  ⟨(some 11), (some (some 7, true)), (.bin .eql (.tmp 10) (.const (Value.int .u8 0)))⟩,
  ⟨(some 12), none, (.pick (.tmp 7) (.tmp 11) (.const (Value.bool false)))⟩])
 (.cond (.tmp 12) .skip
 (.exit 0)))
 (.blk 1 (.reg [⟨(some 13), none, (.mv (.tmp 0))⟩,
  ⟨(some 14), none, (.slc 1 (.tmp 13) (some (.const (Value.int .i64 1))) none)⟩,
  ⟨(some 0), none, (.mv (.tmp 14))⟩])))

def cc79_1 : CC :=
 (.seq (.blk 2 (.seq (.reg [⟨(some 16), none, (.mv (.tmp 0))⟩,
  ⟨(some 17), none, (.len (.tmp 16))⟩,
  ⟨(some 18), none, (.bin .gtr (.tmp 17) (.const (Value.int .i64 64)))⟩,
  ⟨(some 15), none, (.mv (.tmp 18))⟩])
 (.cond (.tmp 15) (.seq (.reg [⟨(some 19), none, (.mki 40 (.const (Value.int .i64 2)))⟩,
  ⟨(some 2), none, (.mv (.const (Value.slice none 0 0)))⟩,
  ⟨(some 3), none, (.mv (.tmp 19))⟩])
 .ret)
 (.seq (.reg [⟨(some 21), none, (.mv (.tmp 0))⟩,
  ⟨(some 22), none, (.len (.tmp 21))⟩,
  ⟨(some 23), none, (.bin .eql (.tmp 22) (.const (Value.int .i64 0)))⟩,
  ⟨(some 24), none, (.mv (.tmp 23))⟩,
  ⟨(some 25), (some (some 24, false)), (.mv (.tmp 0))⟩,
  ⟨(some 26), (some (some 24, false)), (.idxS 1 (.tmp 25) (.const (Value.int .i64 0)))⟩,
  ⟨(some 27), (some (some 24, false)), (.ld 1 false (.tmp 26))⟩,
  ⟨(some 28), (some (some 24, false)), (.bin .geq (.tmp 27) (.const (Value.int .u8 128)))⟩,
  ⟨(some 29), none, (.pick (.tmp 24) (.const (Value.bool true)) (.tmp 28))⟩,
  ⟨(some 20), none, (.mv (.tmp 29))⟩])
 (.cond (.tmp 20) (.seq (.reg [⟨(some 30), none, (.bsl 5 1 1 (.v (.int .u8 0)) [(0, (.const (Value.int .u8 0)))])⟩,
  ⟨(some 31), none, (.mv (.tmp 0))⟩,
  ⟨(some 32), none, (.app 5 1 1 (.tmp 30) (.tmp 31))⟩,
  ⟨(some 2), none, (.mv (.tmp 32))⟩,
  ⟨(some 3), none, (.mv (.const Value.nilIface))⟩])
 .ret)
 .skip)))))
 (.seq (.reg [⟨(some 33), none, (.mv (.tmp 0))⟩,
  ⟨(some 34), none, (.call 109 [(.tmp 33)])⟩,
  ⟨(some 2), none, (.mv (.tmp 34))⟩,
  ⟨(some 3), none, (.mv (.const Value.nilIface))⟩])
 .ret))

def cc79 : CC :=
 (.seq (.reg [⟨(some 2), none, (.mv (.const (Value.slice none 0 0)))⟩,
  ⟨(some 3), none, (.mv (.const Value.nilIface))⟩])
 (.seq (.blk 0 (.loop cc79_0))
 cc79_1))

def cc80 : CC :=
 (.seq (.reg [⟨(some 1), none, (.box 5 (.tmp 0))⟩,
  ⟨(some 2), none, (.mv (.const (Value.int .i64 0)))⟩,
  ⟨(some 3), none, (.mv (.const Value.nilIface))⟩])
 (.seq (.blk 0 (.seq (.reg [⟨(some 6), none, (.ld 5 true (.tmp 1))⟩,
  ⟨(some 7), none, (.call 124 [(.tmp 6)])⟩,
  ⟨(some 8), none, (.un .not (.tmp 7))⟩,
  ⟨(some 5), none, (.mv (.tmp 8))⟩])
 (.cond (.tmp 5) (.seq (.reg [⟨(some 9), none, (.mki 40 (.const (Value.int .i64 1)))⟩,
  ⟨(some 2), none, (.mv (.const (Value.int .i64 0)))⟩,
  ⟨(some 3), none, (.mv (.tmp 9))⟩])
 .ret)
 (.seq (.reg [⟨(some 11), none, (.ld 5 true (.tmp 1))⟩,
  ⟨(some 12), none, (.call 125 [(.tmp 11), (.const (Value.int .i64 16))])⟩,
  ⟨(some 10), none, (.mv (.tmp 12))⟩])
 (.cond (.tmp 10) (.seq (.reg [⟨(some 13), none, (.mki 40 (.const (Value.int .i64 9)))⟩,
  ⟨(some 2), none, (.mv (.const (Value.int .i64 0)))⟩,
  ⟨(some 3), none, (.mv (.tmp 13))⟩])
 .ret)
 .skip)))))
 (.seq (.reg [⟨(some 14), none, (.ld 5 true (.tmp 1))⟩,
  ⟨(some 15), none, (.call 126 [(.tmp 14)])⟩,
  ⟨(some 4), none, (.mv (.tmp 15))⟩])
 (.seq (.seq (.reg [⟨(some 16), none, (.mv (.tmp 4))⟩,
  ⟨(some 17), none, (.bin .gtr (.tmp 16) (.const (Value.int .i64 1048576)))⟩])
 (.cond (.tmp 17) (.seq (.reg [⟨(some 18), none, (.mki 40 (.const (Value.int .i64 2)))⟩,
  ⟨(some 2), none, (.mv (.const (Value.int .i64 0)))⟩,
  ⟨(some 3), none, (.mv (.tmp 18))⟩])
 .ret)
 .skip))
 (.seq (.reg [⟨(some 19), none, (.mv (.tmp 4))⟩,
  ⟨(some 2), none, (.mv (.tmp 19))⟩,
  ⟨(some 3), none, (.mv (.const Value.nilIface))⟩])
 .ret)))))

def cc81_0 : CC :=
 (.seq (.reg [⟨(some 31), none, (.bin .lss (.tmp 30) (.tmp 29))⟩])
 (.seq (.cond (.tmp 31) .skip
 (.exit 0))
 (.seq (.blk 1 (.seq (.reg [⟨(some 32), none, (.idxS 5 (.tmp 28) (.tmp 30))⟩,
  ⟨(some 33), none, (.ld 5 true (.tmp 32))⟩,
  ⟨(some 8), none, (.new 5 (.st [(1, (.v (.int .i64 0))), (1, (.v (.int .i64 0))), (1, (.v (.bool false))), (1, (.v (.slice none 0 0))), (1, (.v (.slice none 0 0)))]))⟩,
  ⟨none, none, (.sto 5 (.tmp 8) (.tmp 33))⟩])
 (.reg [⟨(some 34), none, (.mv (.tmp 6))⟩,
  ⟨(some 35), none, (.ld 5 true (.tmp 8))⟩,
  ⟨(some 36), none, (.call 126 [(.tmp 35)])⟩,
  ⟨(some 37), none, (.bin .add (.tmp 34) (.tmp 36))⟩,
  ⟨(some 6), none, (.mv (.tmp 37))⟩])))
 (.reg [⟨(some 38), none, (.bin .add (.tmp 30) (.const (Value.int .i64 1)))⟩,
  ⟨(some 30), none, (.mv (.tmp 38))⟩]))))

def cc81_2 : CC :=
 (.seq (.seq (.reg [⟨(some 61), none, (.mv (.tmp 10))⟩,
  ⟨(some 62), none, (.bin .geq (.tmp 61) (.const (Value.int .i64 0)))⟩])
 (.cond (.tmp 62) .skip
 (.exit 2)))
 (.seq (.blk 3 (.reg [⟨(some 65), none, (.mv (.tmp 0))⟩,
  ⟨(some 66), none, (.mv (.tmp 6))⟩,
  ⟨(some 67), none, (.mv (.tmp 10))⟩,
  ⟨(some 68), none, (.bin .mul (.const (Value.int .i64 8)) (.tmp 67))⟩,
  ⟨(some 69), none, (.bin .shr (.tmp 66) (.tmp 68))⟩,
  ⟨(some 70), none, (.cvI .u8 (.tmp 69))⟩,
  ⟨(some 71), none, (.bsl 5 1 1 (.v (.int .u8 0)) [(0, (.tmp 70))])⟩,
  ⟨(some 72), none, (.app 5 1 1 (.tmp 65) (.tmp 71))⟩,
  ⟨(some 0), none, (.mv (.tmp 72))⟩]))
 (.reg [⟨(some 63), none, (.mv (.tmp 10))⟩,
  ⟨(some 64), none, (.bin .sub (.tmp 63) (.const (Value.int .i64 1)))⟩,
  ⟨(some 10), none, (.mv (.tmp 64))⟩])))

def cc81_4 : CC :=
 (.seq (.reg [⟨(some 81), none, (.bin .lss (.tmp 80) (.tmp 79))⟩])
 (.seq (.cond (.tmp 81) .skip
 (.exit 4))
 (.seq (.blk 5 (.seq (.reg [⟨(some 82), none, (.idxS 5 (.tmp 78) (.tmp 80))⟩,
  ⟨(some 83), none, (.ld 5 true (.tmp 82))⟩,
  ⟨(some 12), none, (.new 5 (.st [(1, (.v (.int .i64 0))), (1, (.v (.int .i64 0))), (1, (.v (.bool false))), (1, (.v (.slice none 0 0))), (1, (.v (.slice none 0 0)))]))⟩,
  ⟨none, none, (.sto 5 (.tmp 12) (.tmp 83))⟩])
 (.reg [⟨(some 84), none, (.mv (.tmp 0))⟩,
  ⟨(some 85), none, (.ld 5 true (.tmp 12))⟩,
  ⟨(some 86), none, (.call 81 [(.tmp 84), (.tmp 85)])⟩,
  ⟨(some 0), none, (.mv (.tmp 86))⟩])))
 (.reg [⟨(some 87), none, (.bin .add (.tmp 80) (.const (Value.int .i64 1)))⟩,
  ⟨(some 80), none, (.mv (.tmp 87))⟩]))))

def cc81_5 : CC :=
 (.seq (.reg [⟨(some 88), none, (.mv (.tmp 0))⟩,
  ⟨(some 4), none, (.mv (.tmp 88))⟩])
 .ret)

def cc81_3 : CC :=
 (.seq (.reg [⟨(some 73), none, (.mv (.tmp 0))⟩,
  ⟨(some 74), none, (.fld 3 3 1 (.tmp 3))⟩,
  ⟨(some 75), none, (.ld 1 false (.tmp 74))⟩,
  ⟨(some 76), none, (.app 5 1 1 (.tmp 73) (.tmp 75))⟩,
  ⟨(some 0), none, (.mv (.tmp 76))⟩])
 (.seq (.seq (.reg [⟨(some 77), none, (.fld 4 4 1 (.tmp 3))⟩,
  ⟨(some 78), none, (.ld 1 false (.tmp 77))⟩,
  ⟨(some 79), none, (.len (.tmp 78))⟩,
  ⟨(some 80), none, (.mv (.const (Value.int .i64 0)))⟩])
 (.blk 4 (.loop cc81_4)))
 cc81_5))

def cc81_1 : CC :=
 (.seq (.reg [⟨(some 39), none, (.mv (.tmp 0))⟩,
  ⟨(some 40), none, (.mv (.tmp 5))⟩,
  ⟨(some 41), none, (.bsl 5 1 1 (.v (.int .u8 0)) [(0, (.tmp 40))])⟩,
  ⟨(some 42), none, (.app 5 1 1 (.tmp 39) (.tmp 41))⟩,
  ⟨(some 0), none, (.mv (.tmp 42))⟩])
 (.seq (.seq (.reg [⟨(some 43), none, (.mv (.tmp 6))⟩,
  ⟨(some 44), none, (.bin .lss (.tmp 43) (.const (Value.int .i64 128)))⟩])
 (.cond (.tmp 44) (.reg [⟨(some 45), none, (.mv (.tmp 0))⟩,
  ⟨(some 46), none, (.mv (.tmp 6))⟩,
  ⟨(some 47), none, (.cvI .u8 (.tmp 46))⟩,
  ⟨(some 48), none, (.bsl 5 1 1 (.v (.int .u8 0)) [(0, (.tmp 47))])⟩,
  ⟨(some 49), none, (.app 5 1 1 (.tmp 45) (.tmp 48))⟩,
  ⟨(some 0), none, (.mv (.tmp 49))⟩])
 (.seq (.reg [⟨(some 50), none, (.mv (.tmp 6))⟩,
  ⟨(some 51), none, (.call 127 [(.tmp 50)])⟩,
  ⟨(some 52), none, (.bin .sub (.tmp 51) (.const (Value.int .i64 2)))⟩,
  ⟨(some 9), none, (.mv (.tmp 52))⟩])
 (.seq (.reg [⟨(some 53), none, (.mv (.tmp 0))⟩,
  ⟨(some 54), none, (.mv (.tmp 9))⟩,
  ⟨(some 55), none, (.bin .add (.const (Value.int .i64 128)) (.tmp 54))⟩,
  ⟨(some 56), none, (.cvI .u8 (.tmp 55))⟩,
  ⟨(some 57), none, (.bsl 5 1 1 (.v (.int .u8 0)) [(0, (.tmp 56))])⟩,
  ⟨(some 58), none, (.app 5 1 1 (.tmp 53) (.tmp 57))⟩,
  ⟨(some 0), none, (.mv (.tmp 58))⟩])
 (.seq (.reg [⟨(some 59), none, (.mv (.tmp 9))⟩,
  ⟨(some 60), none, (.bin .sub (.tmp 59) (.const (Value.int .i64 1)))⟩,
  ⟨(some 10), none, (.mv (.tmp 60))⟩])
 (.blk 2 (.loop cc81_2)))))))
 cc81_3))

def cc81 : CC :=
 (.seq (.reg [⟨(some 3), none, (.box 5 (.tmp 1))⟩,
  ⟨(some 4), none, (.mv (.const (Value.slice none 0 0)))⟩])
 (.seq (.reg [⟨(some 13), none, (.fld 0 0 1 (.tmp 3))⟩,
  ⟨(some 14), none, (.ld 1 false (.tmp 13))⟩,
  ⟨(some 15), none, (.bin .shl (.tmp 14) (.const (Value.int .u64 6)))⟩,
  ⟨(some 16), none, (.fld 1 1 1 (.tmp 3))⟩,
  ⟨(some 17), none, (.ld 1 false (.tmp 16))⟩,
  ⟨(some 18), none, (.bin .or (.tmp 15) (.tmp 17))⟩,
  ⟨(some 19), none, (.cvI .u8 (.tmp 18))⟩,
  ⟨(some 5), none, (.mv (.tmp 19))⟩])
 (.seq (.seq (.reg [⟨(some 20), none, (.fld 2 2 1 (.tmp 3))⟩,
  ⟨(some 21), none, (.ld 1 false (.tmp 20))⟩])
 (.cond (.tmp 21) (.reg [⟨(some 22), none, (.mv (.tmp 5))⟩,
  ⟨(some 23), none, (.bin .or (.tmp 22) (.const (Value.int .u8 32)))⟩,
  ⟨(some 5), none, (.mv (.tmp 23))⟩])
 .skip))
 (.seq (.reg [⟨(some 24), none, (.fld 3 3 1 (.tmp 3))⟩,
  ⟨(some 25), none, (.ld 1 false (.tmp 24))⟩,
  ⟨(some 26), none, (.len (.tmp 25))⟩,
  ⟨(some 6), none, (.mv (.tmp 26))⟩])
 (.seq (.seq (.reg [⟨(some 27), none, (.fld 4 4 1 (.tmp 3))⟩,
  ⟨(some 28), none, (.ld 1 false (.tmp 27))⟩,
  ⟨(some 29), none, (.len (.tmp 28))⟩,
  ⟨(some 30), none, (.mv (.const (Value.int .i64 0)))⟩])
 (.blk 0 (.loop cc81_0)))
 cc81_1)))))

def cc82_0 : CC :=
 (.seq (.seq (.reg [⟨(some 19), none, (.mv (.tmp 5))⟩,
  ⟨(some 20), none, (.bin .add (.tmp 19) (.const (Value.int .i64 1)))⟩,
  ⟨(some 21), none, (.call 128 [(.tmp 20), (.const (Value.int .i64 1)), (.const (Value.int .i64 1))])⟩,
  ⟨(some 22), none, (.mv (.tmp 0))⟩,
  ⟨(some 23), none, (.bin .leq (.tmp 21) (.tmp 22))⟩])
 (.cond (.tmp 23) .skip
 (.exit 0)))
 (.blk 1 (.reg [⟨(some 24), none, (.mv (.tmp 5))⟩,
  ⟨(some 25), none, (.bin .add (.tmp 24) (.const (Value.int .i64 1)))⟩,
  ⟨(some 5), none, (.mv (.tmp 25))⟩])))

def cc82_2 : CC :=
 (.seq (.seq (.reg [⟨(some 26), none, (.mv (.tmp 6))⟩,
  ⟨(some 27), none, (.bin .lss (.tmp 26) (.const (Value.int .i64 12)))⟩,
  ⟨(some 28), none, (.mv (.tmp 27))⟩,
  ⟨(some 29), (some (some 28, true)), (.mv (.tmp 5))⟩,
  ⟨(some 30), (some (some 28, true)), (.mv (.tmp 6))⟩,
  ⟨(some 31), (some (some 28, true)), (.bin .add (.tmp 30) (.const (Value.int .i64 1)))⟩,
  ⟨(some 32), (some (some 28, true)), (.call 128 [(.tmp 29), (.tmp 31), (.const (Value.int .i64 1))])⟩,
  ⟨(some 33), (some (some 28, true)), (.mv (.tmp 0))⟩,
  ⟨(some 34), (some (some 28, true)), (.bin .leq (.tmp 32) (.tmp 33))⟩,
  ⟨(some 35), none, (.pick (.tmp 28) (.tmp 34) (.const (Value.bool false)))⟩])
 (.cond (.tmp 35) .skip
 (.exit 2)))
 (.blk 3 (.reg [⟨(some 36), none, (.mv (.tmp 6))⟩,
  ⟨(some 37), none, (.bin .add (.tmp 36) (.const (Value.int .i64 1)))⟩,
  ⟨(some 6), none, (.mv (.tmp 37))⟩])))

def cc82_3 : CC :=
 (.seq (.reg [⟨(some 38), none, (.mv (.tmp 0))⟩,
  ⟨(some 39), none, (.mv (.tmp 5))⟩,
  ⟨(some 40), none, (.mv (.tmp 6))⟩,
  ⟨(some 41), none, (.call 128 [(.tmp 39), (.tmp 40), (.const (Value.int .i64 1))])⟩,
  ⟨(some 42), none, (.bin .sub (.tmp 38) (.tmp 41))⟩,
  ⟨(some 7), none, (.mv (.tmp 42))⟩])
 (.seq (.reg [⟨(some 8), none, (.mv (.const (Value.slice none 0 0)))⟩])
 (.seq (.reg [⟨(some 9), none, (.mv (.const (Value.int .i64 23)))⟩])
 (.seq (.seq (.reg [⟨(some 43), none, (.mv (.tmp 5))⟩,
  ⟨(some 44), none, (.bin .gtr (.tmp 43) (.const (Value.int .i64 2049)))⟩])
 (.cond (.tmp 44) (.seq (.reg [⟨(some 9), none, (.mv (.const (Value.int .i64 24)))⟩])
 (.reg [⟨(some 45), none, (.mv (.tmp 8))⟩,
  ⟨(some 46), none, (.mv (.tmp 5))⟩,
  ⟨(some 47), none, (.bin .quo (.tmp 46) (.const (Value.int .i64 100)))⟩,
  ⟨(some 48), none, (.call 129 [(.tmp 47)])⟩,
  ⟨(some 49), none, (.app 5 1 1 (.tmp 45) (.tmp 48))⟩,
  ⟨(some 8), none, (.mv (.tmp 49))⟩]))
 .skip))
 (.seq (.reg [⟨(some 50), none, (.mv (.tmp 8))⟩,
  ⟨(some 51), none, (.mv (.tmp 5))⟩,
  ⟨(some 52), none, (.bin .rem (.tmp 51) (.const (Value.int .i64 100)))⟩,
  ⟨(some 53), none, (.call 129 [(.tmp 52)])⟩,
  ⟨(some 54), none, (.app 5 1 1 (.tmp 50) (.tmp 53))⟩,
  ⟨(some 8), none, (.mv (.tmp 54))⟩])
 (.seq (.reg [⟨(some 55), none, (.mv (.tmp 8))⟩,
  ⟨(some 56), none, (.mv (.tmp 6))⟩,
  ⟨(some 57), none, (.call 129 [(.tmp 56)])⟩,
  ⟨(some 58), none, (.app 5 1 1 (.tmp 55) (.tmp 57))⟩,
  ⟨(some 8), none, (.mv (.tmp 58))⟩])
 (.seq (.reg [⟨(some 59), none, (.mv (.tmp 8))⟩,
  ⟨(some 60), none, (.mv (.tmp 7))⟩,
  ⟨(some 61), none, (.bin .quo (.tmp 60) (.const (Value.int .i64 86400)))⟩,
  ⟨(some 62), none, (.bin .add (.const (Value.int .i64 1)) (.tmp 61))⟩,
  ⟨(some 63), none, (.call 129 [(.tmp 62)])⟩,
  ⟨(some 64), none, (.app 5 1 1 (.tmp 59) (.tmp 63))⟩,
  ⟨(some 8), none, (.mv (.tmp 64))⟩])
 (.seq (.reg [⟨(some 65), none, (.mv (.tmp 8))⟩,
  ⟨(some 66), none, (.mv (.tmp 7))⟩,
  ⟨(some 67), none, (.bin .quo (.tmp 66) (.const (Value.int .i64 3600)))⟩,
  ⟨(some 68), none, (.bin .rem (.tmp 67) (.const (Value.int .i64 24)))⟩,
  ⟨(some 69), none, (.call 129 [(.tmp 68)])⟩,
  ⟨(some 70), none, (.app 5 1 1 (.tmp 65) (.tmp 69))⟩,
  ⟨(some 8), none, (.mv (.tmp 70))⟩])
 (.seq (.reg [⟨(some 71), none, (.mv (.tmp 8))⟩,
  ⟨(some 72), none, (.mv (.tmp 7))⟩,
  ⟨(some 73), none, (.bin .quo (.tmp 72) (.const (Value.int .i64 60)))⟩,
  ⟨(some 74), none, (.bin .rem (.tmp 73) (.const (Value.int .i64 60)))⟩,
  ⟨(some 75), none, (.call 129 [(.tmp 74)])⟩,
  ⟨(some 76), none, (.app 5 1 1 (.tmp 71) (.tmp 75))⟩,
  ⟨(some 8), none, (.mv (.tmp 76))⟩])
 (.seq (.reg [⟨(some 77), none, (.mv (.tmp 8))⟩,
  ⟨(some 78), none, (.mv (.tmp 7))⟩,
  ⟨(some 79), none, (.bin .rem (.tmp 78) (.const (Value.int .i64 60)))⟩,
  ⟨(some 80), none, (.call 129 [(.tmp 79)])⟩,
  ⟨(some 81), none, (.app 5 1 1 (.tmp 77) (.tmp 80))⟩,
  ⟨(some 8), none, (.mv (.tmp 81))⟩])
 (.seq (.reg [⟨(some 82), none, (.mv (.tmp 9))⟩,
  ⟨(some 83), none, (.mv (.tmp 8))⟩,
  ⟨(some 84), none, (.bsl 5 1 1 (.v (.int .u8 0)) [(0, (.const (Value.int .u8 90)))])⟩,
  ⟨(some 85), none, (.app 5 1 1 (.tmp 83) (.tmp 84))⟩,
  ⟨(some 2), none, (.mv (.tmp 82))⟩,
  ⟨(some 3), none, (.mv (.tmp 85))⟩,
  ⟨(some 4), none, (.mv (.const (Value.int .i64 0)))⟩])
 .ret)))))))))))

def cc82_1 : CC :=
 (.seq (.reg [⟨(some 6), none, (.mv (.const (Value.int .i64 1)))⟩])
 (.seq (.blk 2 (.loop cc82_2))
 cc82_3))

def cc82 : CC :=
 (.seq (.reg [⟨(some 2), none, (.mv (.const (Value.int .i64 0)))⟩,
  ⟨(some 3), none, (.mv (.const (Value.slice none 0 0)))⟩,
  ⟨(some 4), none, (.mv (.const (Value.int .i64 0)))⟩])
 (.seq (.seq (.reg [⟨(some 10), none, (.mv (.tmp 0))⟩,
  ⟨(some 11), none, (.call 128 [(.const (Value.int .i64 1950)), (.const (Value.int .i64 1)), (.const (Value.int .i64 1))])⟩,
  ⟨(some 12), none, (.bin .lss (.tmp 10) (.tmp 11))⟩,
  ⟨(some 13), none, (.mv (.tmp 12))⟩,
  ⟨(some 14), (some (some 13, false)), (.mv (.tmp 0))⟩,
  ⟨(some 15), (some (some 13, false)), (.call 128 [(.const (Value.int .i64 9999)), (.const (Value.int .i64 12)), (.const (Value.int .i64 31))])⟩,
  ⟨(some 16), (some (some 13, false)), (.bin .add (.tmp 15) (.const (Value.int .i64 86399)))⟩,
  ⟨(some 17), (some (some 13, false)), (.bin .gtr (.tmp 14) (.tmp 16))⟩,
  ⟨(some 18), none, (.pick (.tmp 13) (.const (Value.bool true)) (.tmp 17))⟩])
 (.cond (.tmp 18) (.seq (.reg [⟨(some 2), none, (.mv (.const (Value.int .i64 0)))⟩,
  ⟨(some 3), none, (.mv (.const (Value.slice none 0 0)))⟩,
  ⟨(some 4), none, (.mv (.const (Value.int .i64 3)))⟩])
 .ret)
 .skip))
 (.seq (.reg [⟨(some 5), none, (.mv (.const (Value.int .i64 1950)))⟩])
 (.seq (.blk 0 (.loop cc82_0))
 cc82_1))))

def cc83_0 : CC :=
 (.seq (.seq (.reg [⟨(some 11), none, (.mv (.tmp 4))⟩,
  ⟨(some 12), none, (.mv (.tmp 0))⟩,
  ⟨(some 13), none, (.len (.tmp 12))⟩,
  ⟨(some 14), none, (.bin .lss (.tmp 11) (.tmp 13))⟩])
 (.cond (.tmp 14) .skip
 (.exit 0)))
 (.seq (.blk 1 (.seq (.reg [⟨(some 17), none, (.mv (.tmp 0))⟩,
  ⟨(some 18), none, (.mv (.tmp 4))⟩,
  ⟨(some 19), none, (.idxS 1 (.tmp 17) (.tmp 18))⟩,
  ⟨(some 20), none, (.ld 1 false (.tmp 19))⟩,
  ⟨(some 21), none, (.bin .lss (.tmp 20) (.const (Value.int .u8 32)))⟩,
  ⟨(some 22), none, (.mv (.tmp 21))⟩,
  ⟨(some 23), (some (some 22, false)), (.mv (.tmp 0))⟩,
  ⟨(some 24), (some (some 22, false)), (.mv (.tmp 4))⟩,
  ⟨(some 25), (some (some 22, false)), (.idxS 1 (.tmp 23) (.tmp 24))⟩,
  ⟨(some 26), (some (some 22, false)), (.ld 1 false (.tmp 25))⟩,
  ⟨(some 27), (some (some 22, false)), (.bin .gtr (.tmp 26) (.const (Value.int .u8 126)))⟩,
  ⟨(some 28), none, (.pick (.tmp 22) (.const (Value.bool true)) (.tmp 27))⟩])
 (.cond (.tmp 28) (.seq (.reg [⟨(some 2), none, (.mv (.const (Value.string ⟨#[]⟩)))⟩,
  ⟨(some 3), none, (.mv (.const (Value.int .i64 7)))⟩])
 .ret)
 .skip)))
 (.reg [⟨(some 15), none, (.mv (.tmp 4))⟩,
  ⟨(some 16), none, (.bin .add (.tmp 15) (.const (Value.int .i64 1)))⟩,
  ⟨(some 4), none, (.mv (.tmp 16))⟩])))

def cc83_1 : CC :=
 (.seq (.reg [⟨(some 29), none, (.mv (.tmp 0))⟩,
  ⟨(some 30), none, (.cvStr (.tmp 29))⟩,
  ⟨(some 2), none, (.mv (.tmp 30))⟩,
  ⟨(some 3), none, (.mv (.const (Value.int .i64 0)))⟩])
 .ret)

def cc83 : CC :=
 (.seq (.reg [⟨(some 2), none, (.mv (.const (Value.string ⟨#[]⟩)))⟩,
  ⟨(some 3), none, (.mv (.const (Value.int .i64 0)))⟩])
 (.seq (.seq (.reg [⟨(some 5), none, (.mv (.tmp 0))⟩,
  ⟨(some 6), none, (.len (.tmp 5))⟩,
  ⟨(some 7), none, (.bin .gtr (.tmp 6) (.const (Value.int .i64 64)))⟩])
 (.cond (.tmp 7) (.seq (.reg [⟨(some 2), none, (.mv (.const (Value.string ⟨#[]⟩)))⟩,
  ⟨(some 3), none, (.mv (.const (Value.int .i64 2)))⟩])
 .ret)
 .skip))
 (.seq (.seq (.reg [⟨(some 8), none, (.mv (.tmp 0))⟩,
  ⟨(some 9), none, (.len (.tmp 8))⟩,
  ⟨(some 10), none, (.bin .eql (.tmp 9) (.const (Value.int .i64 0)))⟩])
 (.cond (.tmp 10) (.seq (.reg [⟨(some 2), none, (.mv (.const (Value.string ⟨#[]⟩)))⟩,
  ⟨(some 3), none, (.mv (.const (Value.int .i64 7)))⟩])
 .ret)
 .skip))
 (.seq (.seq (.reg [⟨(some 4), none, (.mv (.const (Value.int .i64 0)))⟩])
 (.blk 0 (.loop cc83_0)))
 cc83_1))))

def cc84 : CC :=
 (.seq (.reg [⟨(some 2), none, (.mv (.const (Value.bool false)))⟩])
 (.seq (.reg [⟨(some 3), none, (.mv (.tmp 0))⟩,
  ⟨(some 4), none, (.bin .eql (.tmp 3) (.const (Value.int .i64 3)))⟩,
  ⟨(some 5), none, (.mv (.tmp 4))⟩,
  ⟨(some 6), (some (some 5, false)), (.mv (.tmp 0))⟩,
  ⟨(some 7), (some (some 5, false)), (.bin .eql (.tmp 6) (.const (Value.int .i64 6)))⟩,
  ⟨(some 8), none, (.pick (.tmp 5) (.const (Value.bool true)) (.tmp 7))⟩,
  ⟨(some 9), none, (.mv (.tmp 8))⟩,
  ⟨(some 10), (some (some 9, false)), (.mv (.tmp 0))⟩,
  ⟨(some 11), (some (some 9, false)), (.bin .eql (.tmp 10) (.const (Value.int .i64 10)))⟩,
  ⟨(some 12), none, (.pick (.tmp 9) (.const (Value.bool true)) (.tmp 11))⟩,
  ⟨(some 13), none, (.mv (.tmp 12))⟩,
  ⟨(some 14), (some (some 13, false)), (.mv (.tmp 0))⟩,
  ⟨(some 15), (some (some 13, false)), (.bin .eql (.tmp 14) (.const (Value.int .i64 11)))⟩,
  ⟨(some 16), none, (.pick (.tmp 13) (.const (Value.bool true)) (.tmp 15))⟩,
  ⟨(some 2), none, (.mv (.tmp 16))⟩])
 .ret))

def cc85 : CC :=
 (.seq (.reg [⟨(some 2), none, (.new 5 (.st [(1, (.v (.int .i64 0))), (1, (.v (.int .i64 0))), (1, (.v (.bool false))), (1, (.v (.slice none 0 0))), (1, (.v (.slice none 0 0)))]))⟩])
 (.seq (.reg [⟨(some 6), none, (.mv (.tmp 0))⟩,
  ⟨(some 7), none, (.call 130 [(.tmp 6)])⟩,
  ⟨(some 5), none, (.mv (.tmp 7))⟩,
  ⟨(some 8), none, (.ext (.tmp 5) 0)⟩,
  ⟨(some 9), none, (.ext (.tmp 5) 1)⟩,
  ⟨(some 3), none, (.mv (.tmp 8))⟩,
  ⟨(some 4), none, (.mv (.tmp 9))⟩])
 (.seq (.reg [⟨(some 10), none, (.mv (.tmp 3))⟩,
  ⟨(some 11), none, (.bst [(1, (.v (.int .i64 0))), (1, (.v (.int .i64 0))), (1, (.v (.bool false))), (1, (.v (.slice none 0 0))), (1, (.v (.slice none 0 0)))] [(1, (.const (Value.int .i64 6))), (3, (.tmp 10))])⟩,
  ⟨none, none, (.sto 5 (.tmp 2) (.tmp 11))⟩])
 .ret)))

def cc86_0 : CC :=
 (.seq (.seq (.reg [⟨(some 6), none, (.mv (.tmp 4))⟩,
  ⟨(some 7), none, (.mv (.tmp 0))⟩,
  ⟨(some 8), none, (.len (.tmp 7))⟩,
  ⟨(some 9), none, (.bin .lss (.tmp 6) (.tmp 8))⟩,
  ⟨(some 10), none, (.mv (.tmp 9))⟩,
  ⟨(some 11), (some (some 10, true)), (.mv (.tmp 0))⟩,
  ⟨(some 12), (some (some 10, true)), (.mv (.tmp 4))⟩,
  ⟨(some 13), (some (some 10, true)), (.idxS 1 (.tmp 11) (.tmp 12))⟩,
  ⟨(some 14), (some (some 10, true)), (.ld 1 false (.tmp 13))⟩,
  ⟨(some 15), (some (some 10, true)), (.bin .eql (.tmp 14) (.const (Value.int .u8 0)))⟩,
  ⟨(some 16), none, (.pick (.tmp 10) (.tmp 15) (.const (Value.bool false)))⟩])
 (.cond (.tmp 16) .skip
 (.exit 0)))
 (.blk 1 (.reg [⟨(some 17), none, (.mv (.tmp 4))⟩,
  ⟨(some 18), none, (.bin .add (.tmp 17) (.const (Value.int .i64 1)))⟩,
  ⟨(some 4), none, (.mv (.tmp 18))⟩])))

def cc86_1 : CC :=
 (.seq (.reg [⟨(some 19), none, (.bsl 5 1 0 (.v (.int .u8 0)) [])⟩,
  ⟨(some 20), none, (.mv (.tmp 0))⟩,
  ⟨(some 21), none, (.mv (.tmp 4))⟩,
  ⟨(some 22), none, (.slc 1 (.tmp 20) (some (.tmp 21)) none)⟩,
  ⟨(some 23), none, (.app 5 1 1 (.tmp 19) (.tmp 22))⟩,
  ⟨(some 5), none, (.mv (.tmp 23))⟩])
 (.seq (.seq (.reg [⟨(some 24), none, (.mv (.tmp 5))⟩,
  ⟨(some 25), none, (.len (.tmp 24))⟩,
  ⟨(some 26), none, (.bin .gtr (.tmp 25) (.const (Value.int .i64 64)))⟩])
 (.cond (.tmp 26) (.seq (.reg [⟨(some 2), none, (.mv (.const (Value.slice none 0 0)))⟩,
  ⟨(some 3), none, (.mv (.const (Value.int .i64 2)))⟩])
 .ret)
 .skip))
 (.seq (.seq (.reg [⟨(some 27), none, (.mv (.tmp 5))⟩,
  ⟨(some 28), none, (.len (.tmp 27))⟩,
  ⟨(some 29), none, (.bin .eql (.tmp 28) (.const (Value.int .i64 0)))⟩,
  ⟨(some 30), none, (.mv (.tmp 29))⟩,
  ⟨(some 31), (some (some 30, false)), (.mv (.tmp 5))⟩,
  ⟨(some 32), (some (some 30, false)), (.idxS 1 (.tmp 31) (.const (Value.int .i64 0)))⟩,
  ⟨(some 33), (some (some 30, false)), (.ld 1 false (.tmp 32))⟩,
  ⟨(some 34), (some (some 30, false)), (.bin .gtr (.tmp 33) (.const (Value.int .u8 127)))⟩,
  ⟨(some 35), none, (.pick (.tmp 30) (.const (Value.bool true)) (.tmp 34))⟩])
 (.cond (.tmp 35) (.seq (.reg [⟨(some 36), none, (.bsl 5 1 1 (.v (.int .u8 0)) [(0, (.const (Value.int .u8 0)))])⟩,
  ⟨(some 37), none, (.mv (.tmp 5))⟩,
  ⟨(some 38), none, (.app 5 1 1 (.tmp 36) (.tmp 37))⟩,
  ⟨(some 2), none, (.mv (.tmp 38))⟩,
  ⟨(some 3), none, (.mv (.const (Value.int .i64 0)))⟩])
 .ret)
 .skip))
 (.seq (.reg [⟨(some 39), none, (.mv (.tmp 5))⟩,
  ⟨(some 2), none, (.mv (.tmp 39))⟩,
  ⟨(some 3), none, (.mv (.const (Value.int .i64 0)))⟩])
 .ret))))

def cc86 : CC :=
 (.seq (.reg [⟨(some 2), none, (.mv (.const (Value.slice none 0 0)))⟩,
  ⟨(some 3), none, (.mv (.const (Value.int .i64 0)))⟩])
 (.seq (.reg [⟨(some 4), none, (.mv (.const (Value.int .i64 0)))⟩])
 (.seq (.blk 0 (.loop cc86_0))
 cc86_1)))

def cc87_0 : CC :=
 (.seq (.seq (.reg [⟨(some 42), none, (.mv (.tmp 3))⟩,
  ⟨(some 43), none, (.fld 4 4 1 (.tmp 1))⟩,
  ⟨(some 44), none, (.ld 1 false (.tmp 43))⟩,
  ⟨(some 45), none, (.len (.tmp 44))⟩,
  ⟨(some 46), none, (.bin .lss (.tmp 42) (.tmp 45))⟩])
 (.cond (.tmp 46) .skip
 (.exit 0)))
 (.seq (.blk 1 (.seq (.reg [⟨(some 49), none, (.fld 4 4 1 (.tmp 1))⟩,
  ⟨(some 50), none, (.ld 1 false (.tmp 49))⟩,
  ⟨(some 51), none, (.mv (.tmp 3))⟩,
  ⟨(some 52), none, (.idxS 5 (.tmp 50) (.tmp 51))⟩,
  ⟨(some 53), none, (.ld 5 true (.tmp 52))⟩,
  ⟨(some 54), none, (.call 87 [(.tmp 53)])⟩,
  ⟨(some 4), none, (.mv (.tmp 54))⟩])
 (.seq (.reg [⟨(some 55), none, (.mv (.tmp 4))⟩,
  ⟨(some 56), none, (.un .not (.tmp 55))⟩])
 (.cond (.tmp 56) (.seq (.reg [⟨(some 2), none, (.mv (.const (Value.bool false)))⟩])
 .ret)
 .skip))))
 (.reg [⟨(some 47), none, (.mv (.tmp 3))⟩,
  ⟨(some 48), none, (.bin .add (.tmp 47) (.const (Value.int .i64 1)))⟩,
  ⟨(some 3), none, (.mv (.tmp 48))⟩])))

def cc87_1 : CC :=
 (.seq (.reg [⟨(some 2), none, (.mv (.const (Value.bool true)))⟩])
 .ret)

def cc87 : CC :=
 (.seq (.reg [⟨(some 1), none, (.box 5 (.tmp 0))⟩,
  ⟨(some 2), none, (.mv (.const (Value.bool false)))⟩])
 (.seq (.seq (.reg [⟨(some 5), none, (.fld 0 0 1 (.tmp 1))⟩,
  ⟨(some 6), none, (.ld 1 false (.tmp 5))⟩,
  ⟨(some 7), none, (.bin .lss (.tmp 6) (.const (Value.int .i64 0)))⟩,
  ⟨(some 8), none, (.mv (.tmp 7))⟩,
  ⟨(some 9), (some (some 8, false)), (.fld 0 0 1 (.tmp 1))⟩,
  ⟨(some 10), (some (some 8, false)), (.ld 1 false (.tmp 9))⟩,
  ⟨(some 11), (some (some 8, false)), (.bin .gtr (.tmp 10) (.const (Value.int .i64 3)))⟩,
  ⟨(some 12), none, (.pick (.tmp 8) (.const (Value.bool true)) (.tmp 11))⟩,
  ⟨(some 13), none, (.mv (.tmp 12))⟩,
  ⟨(some 14), (some (some 13, false)), (.fld 1 1 1 (.tmp 1))⟩,
  ⟨(some 15), (some (some 13, false)), (.ld 1 false (.tmp 14))⟩,
  ⟨(some 16), (some (some 13, false)), (.bin .lss (.tmp 15) (.const (Value.int .i64 0)))⟩,
  ⟨(some 17), none, (.pick (.tmp 13) (.const (Value.bool true)) (.tmp 16))⟩,
  ⟨(some 18), none, (.mv (.tmp 17))⟩,
  ⟨(some 19), (some (some 18, false)), (.fld 1 1 1 (.tmp 1))⟩,
  ⟨(some 20), (some (some 18, false)), (.ld 1 false (.tmp 19))⟩,
  ⟨(some 21), (some (some 18, false)), (.bin .gtr (.tmp 20) (.const (Value.int .i64 30)))⟩,
  ⟨(some 22), none, (.pick (.tmp 18) (.const (Value.bool true)) (.tmp 21))⟩])
 (.cond (.tmp 22) (.seq (.reg [⟨(some 2), none, (.mv (.const (Value.bool false)))⟩])
 .ret)
 .skip))
 (.seq (.seq (.reg [⟨(some 23), none, (.fld 2 2 1 (.tmp 1))⟩,
  ⟨(some 24), none, (.ld 1 false (.tmp 23))⟩,
  ⟨(some 25), none, (.mv (.tmp 24))⟩,
  ⟨(some 26), (some (some 25, true)), (.fld 3 3 1 (.tmp 1))⟩,
  ⟨(some 27), (some (some 25, true)), (.ld 1 false (.tmp 26))⟩,
  ⟨(some 28), (some (some 25, true)), (.len (.tmp 27))⟩,
  ⟨(some 29), (some (some 25, true)), (.bin .gtr (.tmp 28) (.const (Value.int .i64 0)))⟩,
  ⟨(some 30), none, (.pick (.tmp 25) (.tmp 29) (.const (Value.bool false)))⟩,
  ⟨(some 31), none, (.mv (.tmp 30))⟩,
  ⟨(some 32), (some (some 31, false)), (.fld 2 2 1 (.tmp 1))⟩,
  ⟨(some 33), (some (some 31, false)), (.ld 1 false (.tmp 32))⟩,
  ⟨(some 34), (some (some 31, false)), (.un .not (.tmp 33))⟩,
  ⟨(some 35), (some (some 31, false)), (.mv (.tmp 34))⟩,
  ⟨(some 36), (some (some 35, true)), (.fld 4 4 1 (.tmp 1))⟩,
  ⟨(some 37), (some (some 35, true)), (.ld 1 false (.tmp 36))⟩,
  ⟨(some 38), (some (some 35, true)), (.len (.tmp 37))⟩,
  ⟨(some 39), (some (some 35, true)), (.bin .gtr (.tmp 38) (.const (Value.int .i64 0)))⟩,
  ⟨(some 40), (some (some 31, false)), (.pick (.tmp 35) (.tmp 39) (.const (Value.bool false)))⟩,
  ⟨(some 41), none, (.pick (.tmp 31) (.const (Value.bool true)) (.tmp 40))⟩])
 (.cond (.tmp 41) (.seq (.reg [⟨(some 2), none, (.mv (.const (Value.bool false)))⟩])
 .ret)
 .skip))
 (.seq (.seq (.reg [⟨(some 3), none, (.mv (.const (Value.int .i64 0)))⟩])
 (.blk 0 (.loop cc87_0)))
 cc87_1))))

def cc88_0 : CC :=
 (.seq (.seq (.reg [⟨(some 6), none, (.mv (.tmp 4))⟩,
  ⟨(some 7), none, (.fld 4 4 1 (.tmp 1))⟩,
  ⟨(some 8), none, (.ld 1 false (.tmp 7))⟩,
  ⟨(some 9), none, (.len (.tmp 8))⟩,
  ⟨(some 10), none, (.bin .lss (.tmp 6) (.tmp 9))⟩])
 (.cond (.tmp 10) .skip
 (.exit 0)))
 (.seq (.blk 1 (.seq (.reg [⟨(some 13), none, (.fld 4 4 1 (.tmp 1))⟩,
  ⟨(some 14), none, (.ld 1 false (.tmp 13))⟩,
  ⟨(some 15), none, (.mv (.tmp 4))⟩,
  ⟨(some 16), none, (.idxS 5 (.tmp 14) (.tmp 15))⟩,
  ⟨(some 17), none, (.ld 5 true (.tmp 16))⟩,
  ⟨(some 18), none, (.call 88 [(.tmp 17)])⟩,
  ⟨(some 5), none, (.mv (.tmp 18))⟩])
 (.seq (.reg [⟨(some 19), none, (.mv (.tmp 5))⟩,
  ⟨(some 20), none, (.mv (.tmp 3))⟩,
  ⟨(some 21), none, (.bin .gtr (.tmp 19) (.tmp 20))⟩])
 (.cond (.tmp 21) (.reg [⟨(some 22), none, (.mv (.tmp 5))⟩,
  ⟨(some 3), none, (.mv (.tmp 22))⟩])
 .skip))))
 (.reg [⟨(some 11), none, (.mv (.tmp 4))⟩,
  ⟨(some 12), none, (.bin .add (.tmp 11) (.const (Value.int .i64 1)))⟩,
  ⟨(some 4), none, (.mv (.tmp 12))⟩])))

def cc88_1 : CC :=
 (.seq (.reg [⟨(some 23), none, (.mv (.tmp 3))⟩,
  ⟨(some 24), none, (.bin .add (.tmp 23) (.const (Value.int .i64 1)))⟩,
  ⟨(some 2), none, (.mv (.tmp 24))⟩])
 .ret)

def cc88 : CC :=
 (.seq (.reg [⟨(some 1), none, (.box 5 (.tmp 0))⟩,
  ⟨(some 2), none, (.mv (.const (Value.int .i64 0)))⟩])
 (.seq (.reg [⟨(some 3), none, (.mv (.const (Value.int .i64 0)))⟩])
 (.seq (.seq (.reg [⟨(some 4), none, (.mv (.const (Value.int .i64 0)))⟩])
 (.blk 0 (.loop cc88_0)))
 cc88_1)))

def cc89_0 : CC :=
 (.seq (.seq (.reg [⟨(some 12), none, (.mv (.tmp 4))⟩,
  ⟨(some 13), none, (.fld 4 4 1 (.tmp 1))⟩,
  ⟨(some 14), none, (.ld 1 false (.tmp 13))⟩,
  ⟨(some 15), none, (.len (.tmp 14))⟩,
  ⟨(some 16), none, (.bin .lss (.tmp 12) (.tmp 15))⟩])
 (.cond (.tmp 16) .skip
 (.exit 0)))
 (.seq (.blk 1 (.reg [⟨(some 19), none, (.mv (.tmp 3))⟩,
  ⟨(some 20), none, (.fld 4 4 1 (.tmp 1))⟩,
  ⟨(some 21), none, (.ld 1 false (.tmp 20))⟩,
  ⟨(some 22), none, (.mv (.tmp 4))⟩,
  ⟨(some 23), none, (.idxS 5 (.tmp 21) (.tmp 22))⟩,
  ⟨(some 24), none, (.ld 5 true (.tmp 23))⟩,
  ⟨(some 25), none, (.call 89 [(.tmp 24)])⟩,
  ⟨(some 26), none, (.app 5 1 1 (.tmp 19) (.tmp 25))⟩,
  ⟨(some 3), none, (.mv (.tmp 26))⟩]))
 (.reg [⟨(some 17), none, (.mv (.tmp 4))⟩,
  ⟨(some 18), none, (.bin .add (.tmp 17) (.const (Value.int .i64 1)))⟩,
  ⟨(some 4), none, (.mv (.tmp 18))⟩])))

def cc89_1 : CC :=
 (.seq (.reg [⟨(some 27), none, (.fld 0 0 1 (.tmp 1))⟩,
  ⟨(some 28), none, (.ld 1 false (.tmp 27))⟩,
  ⟨(some 29), none, (.bin .mul (.const (Value.int .i64 64)) (.tmp 28))⟩,
  ⟨(some 30), none, (.fld 1 1 1 (.tmp 1))⟩,
  ⟨(some 31), none, (.ld 1 false (.tmp 30))⟩,
  ⟨(some 32), none, (.bin .add (.tmp 29) (.tmp 31))⟩,
  ⟨(some 5), none, (.mv (.tmp 32))⟩])
 (.seq (.seq (.reg [⟨(some 33), none, (.fld 2 2 1 (.tmp 1))⟩,
  ⟨(some 34), none, (.ld 1 false (.tmp 33))⟩])
 (.cond (.tmp 34) (.reg [⟨(some 35), none, (.mv (.tmp 5))⟩,
  ⟨(some 36), none, (.bin .add (.tmp 35) (.const (Value.int .i64 32)))⟩,
  ⟨(some 5), none, (.mv (.tmp 36))⟩])
 .skip))
 (.seq (.reg [⟨(some 37), none, (.mv (.tmp 5))⟩,
  ⟨(some 38), none, (.cvI .u8 (.tmp 37))⟩,
  ⟨(some 39), none, (.bsl 5 1 1 (.v (.int .u8 0)) [(0, (.tmp 38))])⟩,
  ⟨(some 6), none, (.mv (.tmp 39))⟩])
 (.seq (.reg [⟨(some 40), none, (.mv (.tmp 3))⟩,
  ⟨(some 41), none, (.len (.tmp 40))⟩,
  ⟨(some 7), none, (.mv (.tmp 41))⟩])
 (.seq (.seq (.reg [⟨(some 42), none, (.mv (.tmp 7))⟩,
  ⟨(some 43), none, (.bin .lss (.tmp 42) (.const (Value.int .i64 128)))⟩])
 (.cond (.tmp 43) (.reg [⟨(some 44), none, (.mv (.tmp 6))⟩,
  ⟨(some 45), none, (.mv (.tmp 7))⟩,
  ⟨(some 46), none, (.cvI .u8 (.tmp 45))⟩,
  ⟨(some 47), none, (.bsl 5 1 1 (.v (.int .u8 0)) [(0, (.tmp 46))])⟩,
  ⟨(some 48), none, (.app 5 1 1 (.tmp 44) (.tmp 47))⟩,
  ⟨(some 6), none, (.mv (.tmp 48))⟩])
 (.seq (.reg [⟨(some 49), none, (.mv (.tmp 7))⟩,
  ⟨(some 50), none, (.bin .lss (.tmp 49) (.const (Value.int .i64 256)))⟩])
 (.cond (.tmp 50) (.reg [⟨(some 51), none, (.mv (.tmp 6))⟩,
  ⟨(some 52), none, (.mv (.tmp 7))⟩,
  ⟨(some 53), none, (.cvI .u8 (.tmp 52))⟩,
  ⟨(some 54), none, (.bsl 5 1 2 (.v (.int .u8 0)) [(0, (.const (Value.int .u8 129))), (1, (.tmp 53))])⟩,
  ⟨(some 55), none, (.app 5 1 1 (.tmp 51) (.tmp 54))⟩,
  ⟨(some 6), none, (.mv (.tmp 55))⟩])
 (.seq (.reg [⟨(some 56), none, (.mv (.tmp 7))⟩,
  ⟨(some 57), none, (.bin .lss (.tmp 56) (.const (Value.int .i64 65536)))⟩])
 (.cond (.tmp 57) (.reg [⟨(some 58), none, (.mv (.tmp 6))⟩,
  ⟨(some 59), none, (.mv (.tmp 7))⟩,
  ⟨(some 60), none, (.bin .quo (.tmp 59) (.const (Value.int .i64 256)))⟩,
  ⟨(some 61), none, (.cvI .u8 (.tmp 60))⟩,
  ⟨(some 62), none, (.mv (.tmp 7))⟩,
  ⟨(some 63), none, (.bin .rem (.tmp 62) (.const (Value.int .i64 256)))⟩,
  ⟨(some 64), none, (.cvI .u8 (.tmp 63))⟩,
  ⟨(some 65), none, (.bsl 5 1 3 (.v (.int .u8 0)) [(0, (.const (Value.int .u8 130))), (1, (.tmp 61)), (2, (.tmp 64))])⟩,
  ⟨(some 66), none, (.app 5 1 1 (.tmp 58) (.tmp 65))⟩,
  ⟨(some 6), none, (.mv (.tmp 66))⟩])
 (.reg [⟨(some 67), none, (.mv (.tmp 6))⟩,
  ⟨(some 68), none, (.mv (.tmp 7))⟩,
  ⟨(some 69), none, (.bin .quo (.tmp 68) (.const (Value.int .i64 65536)))⟩,
  ⟨(some 70), none, (.cvI .u8 (.tmp 69))⟩,
  ⟨(some 71), none, (.mv (.tmp 7))⟩,
  ⟨(some 72), none, (.bin .quo (.tmp 71) (.const (Value.int .i64 256)))⟩,
  ⟨(some 73), none, (.bin .rem (.tmp 72) (.const (Value.int .i64 256)))⟩,
  ⟨(some 74), none, (.cvI .u8 (.tmp 73))⟩,
  ⟨(some 75), none, (.mv (.tmp 7))⟩,
  ⟨(some 76), none, (.bin .rem (.tmp 75) (.const (Value.int .i64 256)))⟩,
  ⟨(some 77), none, (.cvI .u8 (.tmp 76))⟩,
  ⟨(some 78), none, (.bsl 5 1 4 (.v (.int .u8 0)) [(0, (.const (Value.int .u8 131))), (1, (.tmp 70)), (2, (.tmp 74)), (3, (.tmp 77))])⟩,
  ⟨(some 79), none, (.app 5 1 1 (.tmp 67) (.tmp 78))⟩,
  ⟨(some 6), none, (.mv (.tmp 79))⟩])))))))
 (.seq (.reg [⟨(some 80), none, (.mv (.tmp 6))⟩,
  ⟨(some 81), none, (.mv (.tmp 3))⟩,
  ⟨(some 82), none, (.app 5 1 1 (.tmp 80) (.tmp 81))⟩,
  ⟨(some 2), none, (.mv (.tmp 82))⟩])
 .ret))))))

def cc89 : CC :=
 (.seq (.reg [⟨(some 1), none, (.box 5 (.tmp 0))⟩,
  ⟨(some 2), none, (.mv (.const (Value.slice none 0 0)))⟩])
 (.seq (.reg [⟨(some 8), none, (.bsl 5 1 0 (.v (.int .u8 0)) [])⟩,
  ⟨(some 9), none, (.fld 3 3 1 (.tmp 1))⟩,
  ⟨(some 10), none, (.ld 1 false (.tmp 9))⟩,
  ⟨(some 11), none, (.app 5 1 1 (.tmp 8) (.tmp 10))⟩,
  ⟨(some 3), none, (.mv (.tmp 11))⟩])
 (.seq (.seq (.reg [⟨(some 4), none, (.mv (.const (Value.int .i64 0)))⟩])
 (.blk 0 (.loop cc89_0)))
 cc89_1)))

def cc90_0 : CC :=
 (.seq (.reg [⟨(some 9), none, (.bin .lss (.tmp 8) (.tmp 7))⟩])
 (.seq (.cond (.tmp 9) .skip
 (.exit 0))
 (.seq (.blk 1 (.seq (.reg [⟨(some 10), none, (.mv (.tmp 8))⟩,
  ⟨(some 5), none, (.mv (.tmp 10))⟩])
 (.seq (.reg [⟨(some 11), none, (.mv (.tmp 1))⟩,
  ⟨(some 12), none, (.mv (.tmp 0))⟩,
  ⟨(some 13), none, (.mv (.tmp 5))⟩,
  ⟨(some 14), none, (.idxS 2 (.tmp 12) (.tmp 13))⟩,
  ⟨(some 15), none, (.ld 2 true (.tmp 14))⟩,
  ⟨(some 16), none, (.callV (.tmp 11) [(.tmp 15)])⟩])
 (.cond (.tmp 16) (.seq (.reg [⟨(some 17), none, (.mv (.tmp 5))⟩,
  ⟨(some 4), none, (.mv (.tmp 17))⟩])
 .ret)
 .skip))))
 (.reg [⟨(some 18), none, (.bin .add (.tmp 8) (.const (Value.int .i64 1)))⟩,
  ⟨(some 8), none, (.mv (.tmp 18))⟩]))))

def cc90_1 : CC :=
 (.seq (.reg [⟨(some 4), none, (.mv (.const (Value.int .i64 (-1))))⟩])
 .ret)

def cc90 : CC :=
 (.seq (.reg [⟨(some 4), none, (.mv (.const (Value.int .i64 0)))⟩])
 (.seq (.seq (.reg [⟨(some 6), none, (.mv (.tmp 0))⟩,
  ⟨(some 7), none, (.len (.tmp 6))⟩,
  ⟨(some 8), none, (.mv (.const (Value.int .i64 0)))⟩])
 (.blk 0 (.loop cc90_0)))
 cc90_1))

def cc108_0 : CC :=
 (.seq (.reg [⟨(some 60), none, (.bin .lss (.tmp 59) (.tmp 58))⟩])
 (.seq (.cond (.tmp 60) .skip
 (.exit 1))
 (.seq (.blk 2 (.seq (.reg [⟨(some 61), none, (.idxS 1 (.tmp 57) (.tmp 59))⟩,
  ⟨(some 62), none, (.ld 1 false (.tmp 61))⟩,
  ⟨(some 13), none, (.mv (.tmp 62))⟩])
 (.reg [⟨(some 63), none, (.mv (.tmp 9))⟩,
  ⟨(some 64), none, (.bin .shl (.tmp 63) (.const (Value.int .u64 8)))⟩,
  ⟨(some 65), none, (.mv (.tmp 13))⟩,
  ⟨(some 66), none, (.cvI .i64 (.tmp 65))⟩,
  ⟨(some 67), none, (.bin .or (.tmp 64) (.tmp 66))⟩,
  ⟨(some 9), none, (.mv (.tmp 67))⟩])))
 (.reg [⟨(some 68), none, (.bin .add (.tmp 59) (.const (Value.int .i64 1)))⟩,
  ⟨(some 59), none, (.mv (.tmp 68))⟩]))))

def cc108_1 : CC :=
 (.seq (.seq (.reg [⟨(some 69), none, (.fld 0 0 1 (.tmp 3))⟩,
  ⟨(some 70), none, (.ld 1 false (.tmp 69))⟩,
  ⟨(some 71), none, (.mv (.tmp 10))⟩,
  ⟨(some 72), none, (.idxS 1 (.tmp 70) (.tmp 71))⟩,
  ⟨(some 73), none, (.ld 1 false (.tmp 72))⟩,
  ⟨(some 74), none, (.bin .eql (.tmp 73) (.const (Value.int .u8 0)))⟩,
  ⟨(some 75), none, (.mv (.tmp 74))⟩,
  ⟨(some 76), (some (some 75, false)), (.mv (.tmp 9))⟩,
  ⟨(some 77), (some (some 75, false)), (.bin .lss (.tmp 76) (.const (Value.int .i64 128)))⟩,
  ⟨(some 78), none, (.pick (.tmp 75) (.const (Value.bool true)) (.tmp 77))⟩])
 (.cond (.tmp 78) (.seq (.reg [⟨(some 79), none, (.mv (.tmp 1))⟩,
  ⟨(some 80), none, (.mki 40 (.const (Value.int .i64 7)))⟩,
  ⟨(some 81), none, (.call 61 [(.tmp 79), (.tmp 80)])⟩,
  ⟨(some 6), none, (.mv (.const (Value.int .i64 0)))⟩,
  ⟨(some 7), none, (.mv (.const (Value.int .i64 0)))⟩,
  ⟨(some 8), none, (.mv (.tmp 81))⟩])
 .ret)
 .skip))
 (.reg [⟨(some 82), none, (.mv (.tmp 10))⟩,
  ⟨(some 83), none, (.mv (.tmp 11))⟩,
  ⟨(some 84), none, (.bin .add (.tmp 82) (.tmp 83))⟩,
  ⟨(some 10), none, (.mv (.tmp 84))⟩]))

def cc108_2 : CC :=
 (.seq (.seq (.reg [⟨(some 85), none, (.mv (.tmp 9))⟩,
  ⟨(some 86), none, (.mv (.tmp 2))⟩,
  ⟨(some 87), none, (.mv (.tmp 10))⟩,
  ⟨(some 88), none, (.bin .sub (.tmp 86) (.tmp 87))⟩,
  ⟨(some 89), none, (.bin .gtr (.tmp 85) (.tmp 88))⟩])
 (.cond (.tmp 89) (.seq (.reg [⟨(some 90), none, (.mv (.tmp 1))⟩,
  ⟨(some 91), none, (.mki 40 (.const (Value.int .i64 6)))⟩,
  ⟨(some 92), none, (.call 61 [(.tmp 90), (.tmp 91)])⟩,
  ⟨(some 6), none, (.mv (.const (Value.int .i64 0)))⟩,
  ⟨(some 7), none, (.mv (.const (Value.int .i64 0)))⟩,
  ⟨(some 8), none, (.mv (.tmp 92))⟩])
 .ret)
 .skip))
 (.seq (.reg [⟨(some 93), none, (.mv (.tmp 10))⟩,
  ⟨(some 94), none, (.mv (.tmp 10))⟩,
  ⟨(some 95), none, (.mv (.tmp 9))⟩,
  ⟨(some 96), none, (.bin .add (.tmp 94) (.tmp 95))⟩,
  ⟨(some 6), none, (.mv (.tmp 93))⟩,
  ⟨(some 7), none, (.mv (.tmp 96))⟩,
  ⟨(some 8), none, (.mv (.const Value.nilIface))⟩])
 .ret))

def cc108 : CC :=
 (.seq (.reg [⟨(some 3), none, (.box 1 (.tmp 0))⟩,
  ⟨(some 6), none, (.mv (.const (Value.int .i64 0)))⟩,
  ⟨(some 7), none, (.mv (.const (Value.int .i64 0)))⟩,
  ⟨(some 8), none, (.mv (.const Value.nilIface))⟩])
 (.seq (.seq (.reg [⟨(some 14), none, (.mv (.tmp 1))⟩,
  ⟨(some 15), none, (.mv (.tmp 2))⟩,
  ⟨(some 16), none, (.bin .geq (.tmp 14) (.tmp 15))⟩])
 (.cond (.tmp 16) (.seq (.reg [⟨(some 17), none, (.mv (.tmp 1))⟩,
  ⟨(some 18), none, (.mki 40 (.const (Value.int .i64 6)))⟩,
  ⟨(some 19), none, (.call 61 [(.tmp 17), (.tmp 18)])⟩,
  ⟨(some 6), none, (.mv (.const (Value.int .i64 0)))⟩,
  ⟨(some 7), none, (.mv (.const (Value.int .i64 0)))⟩,
  ⟨(some 8), none, (.mv (.tmp 19))⟩])
 .ret)
 .skip))
 (.seq (.reg [⟨(some 20), none, (.fld 0 0 1 (.tmp 3))⟩,
  ⟨(some 21), none, (.ld 1 false (.tmp 20))⟩,
  ⟨(some 22), none, (.mv (.tmp 1))⟩,
  ⟨(some 23), none, (.idxS 1 (.tmp 21) (.tmp 22))⟩,
  ⟨(some 24), none, (.ld 1 false (.tmp 23))⟩,
  ⟨(some 25), none, (.cvI .i64 (.tmp 24))⟩,
  ⟨(some 26), none, (.mv (.tmp 1))⟩,
  ⟨(some 27), none, (.bin .add (.tmp 26) (.const (Value.int .i64 1)))⟩,
  ⟨(some 9), none, (.mv (.tmp 25))⟩,
  ⟨(some 10), none, (.mv (.tmp 27))⟩])
 (.seq (.blk 0 (.seq (.reg [⟨(some 29), none, (.mv (.tmp 9))⟩,
  ⟨(some 30), none, (.bin .eql (.tmp 29) (.const (Value.int .i64 128)))⟩,
  ⟨(some 31), none, (.mv (.tmp 30))⟩,
  ⟨(some 32), (some (some 31, false)), (.mv (.tmp 9))⟩,
  ⟨(some 33), (some (some 31, false)), (.bin .gtr (.tmp 32) (.const (Value.int .i64 131)))⟩,
  ⟨(some 34), none, (.pick (.tmp 31) (.const (Value.bool true)) (.tmp 33))⟩,
  ⟨(some 28), none, (.mv (.tmp 34))⟩])
 (.cond (.tmp 28) (.seq (.reg [⟨(some 35), none, (.mv (.tmp 1))⟩,
  ⟨(some 36), none, (.mki 40 (.const (Value.int .i64 7)))⟩,
  ⟨(some 37), none, (.call 61 [(.tmp 35), (.tmp 36)])⟩,
  ⟨(some 6), none, (.mv (.const (Value.int .i64 0)))⟩,
  ⟨(some 7), none, (.mv (.const (Value.int .i64 0)))⟩,
  ⟨(some 8), none, (.mv (.tmp 37))⟩])
 .ret)
 (.seq (.reg [⟨(some 39), none, (.mv (.tmp 9))⟩,
  ⟨(some 40), none, (.bin .gtr (.tmp 39) (.const (Value.int .i64 128)))⟩,
  ⟨(some 38), none, (.mv (.tmp 40))⟩])
 (.cond (.tmp 38) (.seq (.reg [⟨(some 41), none, (.mv (.tmp 9))⟩,
  ⟨(some 42), none, (.bin .sub (.tmp 41) (.const (Value.int .i64 128)))⟩,
  ⟨(some 11), none, (.mv (.tmp 42))⟩])
 (.seq (.seq (.reg [⟨(some 43), none, (.mv (.tmp 11))⟩,
  ⟨(some 44), none, (.mv (.tmp 2))⟩,
  ⟨(some 45), none, (.mv (.tmp 10))⟩,
  ⟨(some 46), none, (.bin .sub (.tmp 44) (.tmp 45))⟩,
  ⟨(some 47), none, (.bin .gtr (.tmp 43) (.tmp 46))⟩])
 (.cond (.tmp 47) (.seq (.reg [⟨(some 48), none, (.mv (.tmp 1))⟩,
  ⟨(some 49), none, (.mki 40 (.const (Value.int .i64 6)))⟩,
  ⟨(some 50), none, (.call 61 [(.tmp 48), (.tmp 49)])⟩,
  ⟨(some 6), none, (.mv (.const (Value.int .i64 0)))⟩,
  ⟨(some 7), none, (.mv (.const (Value.int .i64 0)))⟩,
  ⟨(some 8), none, (.mv (.tmp 50))⟩])
 .ret)
 .skip))
 (.seq (.reg [⟨(some 9), none, (.mv (.const (Value.int .i64 0)))⟩])
 (.seq (.seq (.reg [⟨(some 51), none, (.fld 0 0 1 (.tmp 3))⟩,
  ⟨(some 52), none, (.ld 1 false (.tmp 51))⟩,
  ⟨(some 53), none, (.mv (.tmp 10))⟩,
  ⟨(some 54), none, (.mv (.tmp 10))⟩,
  ⟨(some 55), none, (.mv (.tmp 11))⟩,
  ⟨(some 56), none, (.bin .add (.tmp 54) (.tmp 55))⟩,
  ⟨(some 57), none, (.slc 1 (.tmp 52) (some (.tmp 53)) (some (.tmp 56)))⟩,
  ⟨(some 58), none, (.len (.tmp 57))⟩,
  ⟨(some 59), none, (.mv (.const (Value.int .i64 0)))⟩])
 (.blk 1 (.loop cc108_0)))
 cc108_1))))
 .skip)))))
 cc108_2))))

def cc109 : CC :=
 (.seq (.reg [⟨(some 2), none, (.mv (.const (Value.slice none 0 0)))⟩])
 (.seq (.seq (.reg [⟨(some 3), none, (.mv (.tmp 0))⟩,
  ⟨(some 4), none, (.snil false (.tmp 3))⟩])
 (.cond (.tmp 4) (.seq (.reg [⟨(some 2), none, (.mv (.const (Value.slice none 0 0)))⟩])
 .ret)
 .skip))
 (.seq (.reg [⟨(some 5), none, (.bsl 5 1 0 (.v (.int .u8 0)) [])⟩,
  ⟨(some 6), none, (.mv (.tmp 0))⟩,
  ⟨(some 7), none, (.app 5 1 1 (.tmp 5) (.tmp 6))⟩,
  ⟨(some 2), none, (.mv (.tmp 7))⟩])
 .ret)))

def cc112 : CC :=
 (.seq (.reg [⟨(some 2), none, (.box 5 (.tmp 0))⟩,
  ⟨(some 4), none, (.new 5 (.st [(1, (.v (.int .i64 0))), (1, (.v (.int .i64 0))), (1, (.v (.bool false))), (1, (.v (.slice none 0 0))), (1, (.v (.slice none 0 0)))]))⟩,
  ⟨(some 5), none, (.mv (.const (Value.slice none 0 0)))⟩,
  ⟨(some 6), none, (.new 12 (.st [(6, (.arr 1 [(.v (.int .u64 0)), (.v (.int .u64 0)), (.v (.int .u64 0)), (.v (.int .u64 0)), (.v (.int .u64 0)), (.v (.int .u64 0))])), (6, (.arr 1 [(.v (.int .u64 0)), (.v (.int .u64 0)), (.v (.int .u64 0)), (.v (.int .u64 0)), (.v (.int .u64 0)), (.v (.int .u64 0))]))]))⟩,
  ⟨(some 7), none, (.mv (.const (Value.bool false)))⟩])
 (.seq (.reg [⟨(some 14), none, (.mv (.tmp 1))⟩,
  ⟨(some 15), none, (.len (.tmp 14))⟩,
  ⟨(some 16), none, (.bin .add (.tmp 15) (.const (Value.int .i64 2)))⟩,
  ⟨(some 8), none, (.mv (.tmp 16))⟩])
 (.seq (.seq (.reg [⟨(some 17), none, (.ld 5 true (.tmp 2))⟩,
  ⟨(some 18), none, (.mv (.tmp 8))⟩,
  ⟨(some 19), none, (.call 113 [(.tmp 17), (.tmp 18)])⟩,
  ⟨(some 20), none, (.un .not (.tmp 19))⟩,
  ⟨(some 21), none, (.mv (.tmp 20))⟩,
  ⟨(some 22), (some (some 21, false)), (.fld 4 4 1 (.tmp 2))⟩,
  ⟨(some 23), (some (some 21, false)), (.ld 1 false (.tmp 22))⟩,
  ⟨(some 24), (some (some 21, false)), (.mv (.tmp 8))⟩,
  ⟨(some 25), (some (some 21, false)), (.bin .sub (.tmp 24) (.const (Value.int .i64 1)))⟩,
  ⟨(some 26), (some (some 21, false)), (.slc 5 (.tmp 23) (some (.const (Value.int .i64 1))) (some (.tmp 25)))⟩,
  ⟨(some 27), (some (some 21, false)), (.mv (.tmp 1))⟩,
  ⟨(some 28), (some (some 21, false)), (.call 146 [(.tmp 26), (.tmp 27), (.func 116)])⟩,
  ⟨(some 29), (some (some 21, false)), (.un .not (.tmp 28))⟩,
  ⟨(some 30), none, (.pick (.tmp 21) (.const (Value.bool true)) (.tmp 29))⟩])
 (.cond (.tmp 30) (.seq (.reg [⟨(some 31), none, (.bst [(1, (.v (.int .i64 0))), (1, (.v (.int .i64 0))), (1, (.v (.bool false))), (1, (.v (.slice none 0 0))), (1, (.v (.slice none 0 0)))] [])⟩,
  ⟨(some 32), none, (.bst [(6, (.arr 1 [(.v (.int .u64 0)), (.v (.int .u64 0)), (.v (.int .u64 0)), (.v (.int .u64 0)), (.v (.int .u64 0)), (.v (.int .u64 0))])), (6, (.arr 1 [(.v (.int .u64 0)), (.v (.int .u64 0)), (.v (.int .u64 0)), (.v (.int .u64 0)), (.v (.int .u64 0)), (.v (.int .u64 0))]))] [])⟩,
  ⟨none, none, (.sto 5 (.tmp 4) (.tmp 31))⟩,
  ⟨(some 5), none, (.mv (.const (Value.slice none 0 0)))⟩,
  ⟨none, none, (.sto 12 (.tmp 6) (.tmp 32))⟩,
  ⟨(some 7), none, (.mv (.const (Value.bool false)))⟩])
 .ret)
 .skip))
 (.seq (.reg [⟨(some 34), none, (.fld 4 4 1 (.tmp 2))⟩,
  ⟨(some 35), none, (.ld 1 false (.tmp 34))⟩,
  ⟨(some 36), none, (.mv (.tmp 8))⟩,
  ⟨(some 37), none, (.bin .sub (.tmp 36) (.const (Value.int .i64 1)))⟩,
  ⟨(some 38), none, (.idxS 5 (.tmp 35) (.tmp 37))⟩,
  ⟨(some 39), none, (.ld 5 true (.tmp 38))⟩,
  ⟨(some 40), none, (.call 147 [(.tmp 39)])⟩,
  ⟨(some 33), none, (.mv (.tmp 40))⟩,
  ⟨(some 41), none, (.ext (.tmp 33) 0)⟩,
  ⟨(some 42), none, (.ext (.tmp 33) 1)⟩,
  ⟨(some 9), none, (.mv (.tmp 41))⟩,
  ⟨(some 10), none, (.mv (.tmp 42))⟩])
 (.seq (.seq (.reg [⟨(some 43), none, (.mv (.tmp 10))⟩,
  ⟨(some 44), none, (.un .not (.tmp 43))⟩])
 (.cond (.tmp 44) (.seq (.reg [⟨(some 45), none, (.bst [(1, (.v (.int .i64 0))), (1, (.v (.int .i64 0))), (1, (.v (.bool false))), (1, (.v (.slice none 0 0))), (1, (.v (.slice none 0 0)))] [])⟩,
  ⟨(some 46), none, (.bst [(6, (.arr 1 [(.v (.int .u64 0)), (.v (.int .u64 0)), (.v (.int .u64 0)), (.v (.int .u64 0)), (.v (.int .u64 0)), (.v (.int .u64 0))])), (6, (.arr 1 [(.v (.int .u64 0)), (.v (.int .u64 0)), (.v (.int .u64 0)), (.v (.int .u64 0)), (.v (.int .u64 0)), (.v (.int .u64 0))]))] [])⟩,
  ⟨none, none, (.sto 5 (.tmp 4) (.tmp 45))⟩,
  ⟨(some 5), none, (.mv (.const (Value.slice none 0 0)))⟩,
  ⟨none, none, (.sto 12 (.tmp 6) (.tmp 46))⟩,
  ⟨(some 7), none, (.mv (.const (Value.bool false)))⟩])
 .ret)
 .skip))
 (.seq (.reg [⟨(some 48), none, (.mv (.tmp 9))⟩,
  ⟨(some 49), none, (.call 7 [(.tmp 48)])⟩,
  ⟨(some 47), none, (.mv (.tmp 49))⟩,
  ⟨(some 50), none, (.ext (.tmp 47) 0)⟩,
  ⟨(some 51), none, (.ext (.tmp 47) 1)⟩,
  ⟨(some 11), none, (.new 12 (.st [(6, (.arr 1 [(.v (.int .u64 0)), (.v (.int .u64 0)), (.v (.int .u64 0)), (.v (.int .u64 0)), (.v (.int .u64 0)), (.v (.int .u64 0))])), (6, (.arr 1 [(.v (.int .u64 0)), (.v (.int .u64 0)), (.v (.int .u64 0)), (.v (.int .u64 0)), (.v (.int .u64 0)), (.v (.int .u64 0))]))]))⟩,
  ⟨none, none, (.sto 12 (.tmp 11) (.tmp 50))⟩,
  ⟨(some 12), none, (.mv (.tmp 51))⟩])
 (.seq (.seq (.reg [⟨(some 52), none, (.mv (.tmp 12))⟩,
  ⟨(some 53), none, (.ieq true (.tmp 52) (.const Value.nilIface))⟩])
 (.cond (.tmp 53) (.seq (.reg [⟨(some 54), none, (.bst [(1, (.v (.int .i64 0))), (1, (.v (.int .i64 0))), (1, (.v (.bool false))), (1, (.v (.slice none 0 0))), (1, (.v (.slice none 0 0)))] [])⟩,
  ⟨(some 55), none, (.bst [(6, (.arr 1 [(.v (.int .u64 0)), (.v (.int .u64 0)), (.v (.int .u64 0)), (.v (.int .u64 0)), (.v (.int .u64 0)), (.v (.int .u64 0))])), (6, (.arr 1 [(.v (.int .u64 0)), (.v (.int .u64 0)), (.v (.int .u64 0)), (.v (.int .u64 0)), (.v (.int .u64 0)), (.v (.int .u64 0))]))] [])⟩,
  ⟨none, none, (.sto 5 (.tmp 4) (.tmp 54))⟩,
  ⟨(some 5), none, (.mv (.const (Value.slice none 0 0)))⟩,
  ⟨none, none, (.sto 12 (.tmp 6) (.tmp 55))⟩,
  ⟨(some 7), none, (.mv (.const (Value.bool false)))⟩])
 .ret)
 .skip))
 (.seq (.reg [⟨(some 57), none, (.fld 4 4 1 (.tmp 2))⟩,
  ⟨(some 58), none, (.ld 1 false (.tmp 57))⟩,
  ⟨(some 59), none, (.idxS 5 (.tmp 58) (.const (Value.int .i64 0)))⟩,
  ⟨(some 60), none, (.ld 5 true (.tmp 59))⟩,
  ⟨(some 61), none, (.call 39 [(.tmp 60)])⟩,
  ⟨(some 56), none, (.mv (.tmp 61))⟩,
  ⟨(some 62), none, (.ext (.tmp 56) 0)⟩,
  ⟨(some 63), none, (.ext (.tmp 56) 1)⟩,
  ⟨(some 13), none, (.mv (.tmp 62))⟩,
  ⟨(some 12), none, (.mv (.tmp 63))⟩])
 (.seq (.drw [⟨(some 64), none, (.fld 4 4 1 (.tmp 2))⟩,
  ⟨(some 65), none, (.ld 1 false (.tmp 64))⟩,
  ⟨(some 66), none, (.idxS 5 (.tmp 65) (.const (Value.int .i64 0)))⟩,
  ⟨(some 67), none, (.ld 5 true (.tmp 66))⟩,
  ⟨(some 68), none, (.mv (.tmp 13))⟩,
  ⟨(some 69), none, (.ld 12 true (.tmp 11))⟩,
  ⟨(some 70), none, (.mv (.tmp 12))⟩,
  ⟨(some 71), none, (.ieq false (.tmp 70) (.const Value.nilIface))⟩,
  ⟨none, none, (.sto 5 (.tmp 4) (.tmp 67))⟩,
  ⟨(some 5), none, (.mv (.tmp 68))⟩,
  ⟨none, none, (.sto 12 (.tmp 6) (.tmp 69))⟩,
  ⟨(some 7), none, (.mv (.tmp 71))⟩] [[], [0], [1], [2], [], [], [], [6], [3, 0, 1, 2, 3], [4, 8, 0, 1, 2, 3, 4, 8], [5, 9, 0, 1, 2, 3, 4, 5, 8, 9], [7, 10, 0, 1, 2, 3, 4, 5, 6, 7, 8, 9, 10]])
 .ret)))))))))

def cc113 : CC :=
 (.seq (.reg [⟨(some 2), none, (.box 5 (.tmp 0))⟩,
  ⟨(some 4), none, (.mv (.const (Value.bool false)))⟩])
 (.seq (.reg [⟨(some 5), none, (.fld 0 0 1 (.tmp 2))⟩,
  ⟨(some 6), none, (.ld 1 false (.tmp 5))⟩,
  ⟨(some 7), none, (.bin .eql (.tmp 6) (.const (Value.int .i64 0)))⟩,
  ⟨(some 8), none, (.mv (.tmp 7))⟩,
  ⟨(some 9), (some (some 8, true)), (.fld 1 1 1 (.tmp 2))⟩,
  ⟨(some 10), (some (some 8, true)), (.ld 1 false (.tmp 9))⟩,
  ⟨(some 11), (some (some 8, true)), (.bin .eql (.tmp 10) (.const (Value.int .i64 16)))⟩,
  ⟨(some 12), none, (.pick (.tmp 8) (.tmp 11) (.const (Value.bool false)))⟩,
  ⟨(some 13), none, (.mv (.tmp 12))⟩,
  ⟨(some 14), (some (some 13, true)), (.fld 2 2 1 (.tmp 2))⟩,
  ⟨(some 15), (some (some 13, true)), (.ld 1 false (.tmp 14))⟩,
  ⟨(some 16), none, (.pick (.tmp 13) (.tmp 15) (.const (Value.bool false)))⟩,
  ⟨(some 17), none, (.mv (.tmp 16))⟩,
  ⟨(some 18), (some (some 17, true)), (.mv (.tmp 1))⟩,
  ⟨(some 19), (some (some 17, true)), (.bin .lss (.tmp 18) (.const (Value.int .i64 0)))⟩,
  ⟨(some 20), (some (some 17, true)), (.mv (.tmp 19))⟩,
  ⟨(some 21), (some (some 20, false)), (.fld 4 4 1 (.tmp 2))⟩,
  ⟨(some 22), (some (some 20, false)), (.ld 1 false (.tmp 21))⟩,
  ⟨(some 23), (some (some 20, false)), (.len (.tmp 22))⟩,
  ⟨(some 24), (some (some 20, false)), (.mv (.tmp 1))⟩,
  ⟨(some 25), (some (some 20, false)), (.bin .eql (.tmp 23) (.tmp 24))⟩,
  ⟨(some 26), (some (some 17, true)), (.pick (.tmp 20) (.const (Value.bool true)) (.tmp 25))⟩,
  ⟨(some 27), none, (.pick (.tmp 17) (.tmp 26) (.const (Value.bool false)))⟩,
  ⟨(some 4), none, (.mv (.tmp 27))⟩])
 .ret))

def cc118 : CC :=
 (.seq (.reg [⟨(some 4), none, (.mv (.const (Value.bool false)))⟩])
 (.seq (.reg [⟨(some 5), none, (.mv (.tmp 0))⟩,
  ⟨(some 6), none, (.mv (.tmp 1))⟩,
  ⟨(some 7), none, (.call 153 [(.tmp 5), (.tmp 6)])⟩,
  ⟨(some 8), none, (.bin .geq (.tmp 7) (.const (Value.int .i64 0)))⟩,
  ⟨(some 4), none, (.mv (.tmp 8))⟩])
 .ret))

def cc119 : CC :=
 (.seq (.reg [⟨(some 2), none, (.mv (.const (Value.bool false)))⟩])
 (.seq (.reg [⟨(some 3), none, (.mv (.tmp 0))⟩,
  ⟨(some 4), none, (.bin .lss (.tmp 3) (.const (Value.int .u8 32)))⟩,
  ⟨(some 5), none, (.mv (.tmp 4))⟩,
  ⟨(some 6), (some (some 5, false)), (.mv (.tmp 0))⟩,
  ⟨(some 7), (some (some 5, false)), (.bin .gtr (.tmp 6) (.const (Value.int .u8 126)))⟩,
  ⟨(some 8), none, (.pick (.tmp 5) (.const (Value.bool true)) (.tmp 7))⟩,
  ⟨(some 2), none, (.mv (.tmp 8))⟩])
 .ret))

def cc120 : CC :=
 (.seq (.reg [⟨(some 2), none, (.mv (.const (Value.int .i64 0)))⟩])
 (.seq (.reg [⟨(some 3), none, (.mv (.tmp 0))⟩,
  ⟨(some 4), none, (.bin .sub (.tmp 3) (.const (Value.int .i64 1)))⟩,
  ⟨(some 0), none, (.mv (.tmp 4))⟩])
 (.seq (.reg [⟨(some 5), none, (.mv (.tmp 0))⟩,
  ⟨(some 6), none, (.bin .sub (.tmp 5) (.const (Value.int .i64 1969)))⟩,
  ⟨(some 7), none, (.bin .mul (.tmp 6) (.const (Value.int .i64 365)))⟩,
  ⟨(some 8), none, (.mv (.tmp 0))⟩,
  ⟨(some 9), none, (.bin .quo (.tmp 8) (.const (Value.int .i64 4)))⟩,
  ⟨(some 10), none, (.bin .add (.tmp 7) (.tmp 9))⟩,
  ⟨(some 11), none, (.bin .sub (.tmp 10) (.const (Value.int .i64 492)))⟩,
  ⟨(some 12), none, (.mv (.tmp 0))⟩,
  ⟨(some 13), none, (.bin .quo (.tmp 12) (.const (Value.int .i64 100)))⟩,
  ⟨(some 14), none, (.bin .sub (.tmp 11) (.tmp 13))⟩,
  ⟨(some 15), none, (.bin .add (.tmp 14) (.const (Value.int .i64 19)))⟩,
  ⟨(some 16), none, (.mv (.tmp 0))⟩,
  ⟨(some 17), none, (.bin .quo (.tmp 16) (.const (Value.int .i64 400)))⟩,
  ⟨(some 18), none, (.bin .add (.tmp 15) (.tmp 17))⟩,
  ⟨(some 19), none, (.bin .sub (.tmp 18) (.const (Value.int .i64 4)))⟩,
  ⟨(some 2), none, (.mv (.tmp 19))⟩])
 .ret)))

def cc121 : CC :=
 (.seq (.reg [⟨(some 4), none, (.mv (.const (Value.int .i64 0)))⟩])
 (.seq (.seq (.reg [⟨(some 5), none, (.mv (.tmp 1))⟩])
 (.blk 0 (.seq (.reg [⟨(some 7), none, (.bin .eql (.tmp 5) (.const (Value.int .i64 2)))⟩,
  ⟨(some 6), none, (.mv (.tmp 7))⟩])
 (.cond (.tmp 6) (.seq (.seq (.reg [⟨(some 8), none, (.mv (.tmp 0))⟩,
  ⟨(some 9), none, (.call 154 [(.tmp 8)])⟩])
 (.cond (.tmp 9) (.seq (.reg [⟨(some 4), none, (.mv (.const (Value.int .i64 29)))⟩])
 .ret)
 .skip))
 (.seq (.reg [⟨(some 4), none, (.mv (.const (Value.int .i64 28)))⟩])
 .ret))
 (.seq (.seq (.reg [⟨(some 11), none, (.bin .eql (.tmp 5) (.const (Value.int .i64 4)))⟩,
  ⟨(some 10), none, (.mv (.tmp 11))⟩])
 (.cond (.tmp 10) .skip
 (.seq (.reg [⟨(some 12), none, (.bin .eql (.tmp 5) (.const (Value.int .i64 6)))⟩,
  ⟨(some 10), none, (.mv (.tmp 12))⟩])
 (.cond (.tmp 10) .skip
 (.seq (.reg [⟨(some 13), none, (.bin .eql (.tmp 5) (.const (Value.int .i64 9)))⟩,
  ⟨(some 10), none, (.mv (.tmp 13))⟩])
 (.cond (.tmp 10) .skip
 (.reg [⟨(some 14), none, (.bin .eql (.tmp 5) (.const (Value.int .i64 11)))⟩,
  ⟨(some 10), none, (.mv (.tmp 14))⟩])))))))
 (.cond (.tmp 10) (.seq (.reg [⟨(some 4), none, (.mv (.const (Value.int .i64 30)))⟩])
 .ret)
 .skip))))))
 (.seq (.reg [⟨(some 4), none, (.mv (.const (Value.int .i64 31)))⟩])
 .ret)))

def cc122 : CC :=
 (.seq (.reg [⟨(some 2), none, (.mv (.const (Value.slice none 0 0)))⟩])
 (.seq (.reg [⟨(some 3), none, (.mv (.tmp 0))⟩,
  ⟨(some 4), none, (.bin .quo (.tmp 3) (.const (Value.int .i64 10)))⟩,
  ⟨(some 5), none, (.bin .add (.const (Value.int .i64 48)) (.tmp 4))⟩,
  ⟨(some 6), none, (.cvI .u8 (.tmp 5))⟩,
  ⟨(some 7), none, (.mv (.tmp 0))⟩,
  ⟨(some 8), none, (.bin .rem (.tmp 7) (.const (Value.int .i64 10)))⟩,
  ⟨(some 9), none, (.bin .add (.const (Value.int .i64 48)) (.tmp 8))⟩,
  ⟨(some 10), none, (.cvI .u8 (.tmp 9))⟩,
  ⟨(some 11), none, (.bsl 5 1 2 (.v (.int .u8 0)) [(0, (.tmp 6)), (1, (.tmp 10))])⟩,
  ⟨(some 2), none, (.mv (.tmp 11))⟩])
 .ret))

def cc123_2 : CC :=
 (.seq (.seq (.reg [⟨(some 57), none, (.mv (.tmp 6))⟩,
  ⟨(some 58), none, (.mv (.tmp 7))⟩,
  ⟨(some 59), none, (.bin .mul (.const (Value.int .i64 7)) (.tmp 58))⟩,
  ⟨(some 60), none, (.bin .shr (.tmp 57) (.tmp 59))⟩,
  ⟨(some 61), none, (.bin .gtr (.tmp 60) (.const (Value.int .u64 0)))⟩])
 (.cond (.tmp 61) .skip
 (.exit 2)))
 (.blk 3 (.reg [⟨(some 62), none, (.mv (.tmp 7))⟩,
  ⟨(some 63), none, (.bin .add (.tmp 62) (.const (Value.int .i64 1)))⟩,
  ⟨(some 7), none, (.mv (.tmp 63))⟩])))

def cc123_5 : CC :=
 (.seq (.seq (.reg [⟨(some 66), none, (.mv (.tmp 8))⟩,
  ⟨(some 67), none, (.bin .geq (.tmp 66) (.const (Value.int .i64 0)))⟩])
 (.cond (.tmp 67) .skip
 (.exit 4)))
 (.seq (.blk 5 (.seq (.reg [⟨(some 70), none, (.mv (.tmp 6))⟩,
  ⟨(some 71), none, (.mv (.tmp 8))⟩,
  ⟨(some 72), none, (.bin .mul (.const (Value.int .i64 7)) (.tmp 71))⟩,
  ⟨(some 73), none, (.bin .shr (.tmp 70) (.tmp 72))⟩,
  ⟨(some 74), none, (.cvI .u8 (.tmp 73))⟩,
  ⟨(some 75), none, (.bin .and (.tmp 74) (.const (Value.int .u8 127)))⟩,
  ⟨(some 9), none, (.mv (.tmp 75))⟩])
 (.seq (.seq (.reg [⟨(some 76), none, (.mv (.tmp 8))⟩,
  ⟨(some 77), none, (.bin .gtr (.tmp 76) (.const (Value.int .i64 0)))⟩])
 (.cond (.tmp 77) (.reg [⟨(some 78), none, (.mv (.tmp 9))⟩,
  ⟨(some 79), none, (.bin .or (.tmp 78) (.const (Value.int .u8 128)))⟩,
  ⟨(some 9), none, (.mv (.tmp 79))⟩])
 .skip))
 (.reg [⟨(some 80), none, (.mv (.tmp 4))⟩,
  ⟨(some 81), none, (.mv (.tmp 9))⟩,
  ⟨(some 82), none, (.bsl 5 1 1 (.v (.int .u8 0)) [(0, (.tmp 81))])⟩,
  ⟨(some 83), none, (.app 5 1 1 (.tmp 80) (.tmp 82))⟩,
  ⟨(some 4), none, (.mv (.tmp 83))⟩]))))
 (.reg [⟨(some 68), none, (.mv (.tmp 8))⟩,
  ⟨(some 69), none, (.bin .sub (.tmp 68) (.const (Value.int .i64 1)))⟩,
  ⟨(some 8), none, (.mv (.tmp 69))⟩])))

def cc123_3 : CC :=
 (.seq (.reg [⟨(some 64), none, (.mv (.tmp 7))⟩,
  ⟨(some 65), none, (.bin .sub (.tmp 64) (.const (Value.int .i64 1)))⟩,
  ⟨(some 8), none, (.mv (.tmp 65))⟩])
 (.blk 4 (.loop cc123_5)))

def cc123_4 : CC :=
 (.reg [⟨(some 84), none, (.bin .add (.tmp 44) (.const (Value.int .i64 1)))⟩,
  ⟨(some 44), none, (.mv (.tmp 84))⟩])

def cc123_0 : CC :=
 (.seq (.reg [⟨(some 45), none, (.bin .lss (.tmp 44) (.tmp 43))⟩])
 (.seq (.cond (.tmp 45) .skip
 (.exit 0))
 (.seq (.blk 1 (.seq (.reg [⟨(some 46), none, (.mv (.tmp 44))⟩,
  ⟨(some 47), none, (.idxS 1 (.tmp 42) (.tmp 44))⟩,
  ⟨(some 48), none, (.ld 1 false (.tmp 47))⟩,
  ⟨(some 5), none, (.mv (.tmp 46))⟩,
  ⟨(some 6), none, (.mv (.tmp 48))⟩])
 (.seq (.seq (.reg [⟨(some 49), none, (.mv (.tmp 5))⟩,
  ⟨(some 50), none, (.bin .eql (.tmp 49) (.const (Value.int .i64 0)))⟩])
 (.cond (.tmp 50) (.reg [⟨(some 51), none, (.mv (.tmp 6))⟩,
  ⟨(some 52), none, (.mv (.tmp 0))⟩,
  ⟨(some 53), none, (.idxS 1 (.tmp 52) (.const (Value.int .i64 0)))⟩,
  ⟨(some 54), none, (.ld 1 false (.tmp 53))⟩,
  ⟨(some 55), none, (.bin .mul (.const (Value.int .u64 40)) (.tmp 54))⟩,
  ⟨(some 56), none, (.bin .add (.tmp 51) (.tmp 55))⟩,
  ⟨(some 6), none, (.mv (.tmp 56))⟩])
 .skip))
 (.seq (.reg [⟨(some 7), none, (.mv (.const (Value.int .i64 1)))⟩])
 (.seq (.blk 2 (.loop cc123_2))
 cc123_3)))))
 cc123_4)))

def cc123_1 : CC :=
 (.seq (.reg [⟨(some 85), none, (.mv (.tmp 4))⟩,
  ⟨(some 2), none, (.mv (.tmp 85))⟩,
  ⟨(some 3), none, (.mv (.const Value.nilIface))⟩])
 .ret)

def cc123 : CC :=
 (.seq (.reg [⟨(some 2), none, (.mv (.const (Value.slice none 0 0)))⟩,
  ⟨(some 3), none, (.mv (.const Value.nilIface))⟩])
 (.seq (.seq (.reg [⟨(some 10), none, (.mv (.tmp 0))⟩,
  ⟨(some 11), none, (.len (.tmp 10))⟩,
  ⟨(some 12), none, (.bin .lss (.tmp 11) (.const (Value.int .i64 2)))⟩,
  ⟨(some 13), none, (.mv (.tmp 12))⟩,
  ⟨(some 14), (some (some 13, false)), (.mv (.tmp 0))⟩,
  ⟨(some 15), (some (some 13, false)), (.len (.tmp 14))⟩,
  ⟨(some 16), (some (some 13, false)), (.bin .gtr (.tmp 15) (.const (Value.int .i64 16)))⟩,
  ⟨(some 17), none, (.pick (.tmp 13) (.const (Value.bool true)) (.tmp 16))⟩,
  ⟨(some 18), none, (.mv (.tmp 17))⟩,
  ⟨(some 19), (some (some 18, false)), (.mv (.tmp 0))⟩,
  ⟨(some 20), (some (some 18, false)), (.idxS 1 (.tmp 19) (.const (Value.int .i64 0)))⟩,
  ⟨(some 21), (some (some 18, false)), (.ld 1 false (.tmp 20))⟩,
  ⟨(some 22), (some (some 18, false)), (.bin .gtr (.tmp 21) (.const (Value.int .u64 2)))⟩,
  ⟨(some 23), none, (.pick (.tmp 18) (.const (Value.bool true)) (.tmp 22))⟩,
  ⟨(some 24), none, (.mv (.tmp 23))⟩,
  ⟨(some 25), (some (some 24, false)), (.mv (.tmp 0))⟩,
  ⟨(some 26), (some (some 24, false)), (.idxS 1 (.tmp 25) (.const (Value.int .i64 0)))⟩,
  ⟨(some 27), (some (some 24, false)), (.ld 1 false (.tmp 26))⟩,
  ⟨(some 28), (some (some 24, false)), (.bin .lss (.tmp 27) (.const (Value.int .u64 2)))⟩,
  ⟨(some 29), (some (some 24, false)), (.mv (.tmp 28))⟩,
  ⟨(some 30), (some (some 29, true)), (.mv (.tmp 0))⟩,
  ⟨(some 31), (some (some 29, true)), (.idxS 1 (.tmp 30) (.const (Value.int .i64 1)))⟩,
  ⟨(some 32), (some (some 29, true)), (.ld 1 false (.tmp 31))⟩,
  ⟨(some 33), (some (some 29, true)), (.bin .gtr (.tmp 32) (.const (Value.int .u64 39)))⟩,
  ⟨(some 34), (some (some 24, false)), (.pick (.tmp 29) (.tmp 33) (.const (Value.bool false)))⟩,
  ⟨(some 35), none, (.pick (.tmp 24) (.const (Value.bool true)) (.tmp 34))⟩,
  ⟨(some 36), none, (.mv (.tmp 35))⟩,
  ⟨(some 37), (some (some 36, false)), (.mv (.tmp 0))⟩,
  ⟨(some 38), (some (some 36, false)), (.call 155 [(.tmp 37), (.func 156)])⟩,
  ⟨(some 39), none, (.pick (.tmp 36) (.const (Value.bool true)) (.tmp 38))⟩])
 (.cond (.tmp 39) (.seq (.reg [⟨(some 40), none, (.mki 40 (.const (Value.int .i64 1)))⟩,
  ⟨(some 2), none, (.mv (.const (Value.slice none 0 0)))⟩,
  ⟨(some 3), none, (.mv (.tmp 40))⟩])
 .ret)
 .skip))
 (.seq (.reg [⟨(some 4), none, (.mv (.const (Value.slice none 0 0)))⟩])
 (.seq (.seq (.reg [⟨(some 41), none, (.mv (.tmp 0))⟩,
  ⟨(some 42), none, (.slc 1 (.tmp 41) (some (.const (Value.int .i64 1))) none)⟩,
  ⟨(some 43), none, (.len (.tmp 42))⟩,
  ⟨(some 44), none, (.mv (.const (Value.int .i64 0)))⟩])
 (.blk 0 (.loop cc123_0)))
 cc123_1))))

def cc124 : CC :=
 (.seq (.reg [⟨(some 1), none, (.box 5 (.tmp 0))⟩,
  ⟨(some 2), none, (.mv (.const (Value.bool false)))⟩])
 (.seq (.seq (.reg [⟨(some 3), none, (.fld 0 0 1 (.tmp 1))⟩,
  ⟨(some 4), none, (.ld 1 false (.tmp 3))⟩,
  ⟨(some 5), none, (.bin .lss (.tmp 4) (.const (Value.int .i64 0)))⟩,
  ⟨(some 6), none, (.mv (.tmp 5))⟩,
  ⟨(some 7), (some (some 6, false)), (.fld 0 0 1 (.tmp 1))⟩,
  ⟨(some 8), (some (some 6, false)), (.ld 1 false (.tmp 7))⟩,
  ⟨(some 9), (some (some 6, false)), (.bin .gtr (.tmp 8) (.const (Value.int .i64 3)))⟩,
  ⟨(some 10), none, (.pick (.tmp 6) (.const (Value.bool true)) (.tmp 9))⟩,
  ⟨(some 11), none, (.mv (.tmp 10))⟩,
  ⟨(some 12), (some (some 11, false)), (.fld 1 1 1 (.tmp 1))⟩,
  ⟨(some 13), (some (some 11, false)), (.ld 1 false (.tmp 12))⟩,
  ⟨(some 14), (some (some 11, false)), (.bin .lss (.tmp 13) (.const (Value.int .i64 0)))⟩,
  ⟨(some 15), none, (.pick (.tmp 11) (.const (Value.bool true)) (.tmp 14))⟩,
  ⟨(some 16), none, (.mv (.tmp 15))⟩,
  ⟨(some 17), (some (some 16, false)), (.fld 1 1 1 (.tmp 1))⟩,
  ⟨(some 18), (some (some 16, false)), (.ld 1 false (.tmp 17))⟩,
  ⟨(some 19), (some (some 16, false)), (.bin .geq (.tmp 18) (.const (Value.int .i64 31)))⟩,
  ⟨(some 20), none, (.pick (.tmp 16) (.const (Value.bool true)) (.tmp 19))⟩,
  ⟨(some 21), none, (.mv (.tmp 20))⟩,
  ⟨(some 22), (some (some 21, false)), (.fld 2 2 1 (.tmp 1))⟩,
  ⟨(some 23), (some (some 21, false)), (.ld 1 false (.tmp 22))⟩,
  ⟨(some 24), (some (some 21, false)), (.mv (.tmp 23))⟩,
  ⟨(some 25), (some (some 24, true)), (.fld 3 3 1 (.tmp 1))⟩,
  ⟨(some 26), (some (some 24, true)), (.ld 1 false (.tmp 25))⟩,
  ⟨(some 27), (some (some 24, true)), (.len (.tmp 26))⟩,
  ⟨(some 28), (some (some 24, true)), (.bin .gtr (.tmp 27) (.const (Value.int .i64 0)))⟩,
  ⟨(some 29), (some (some 21, false)), (.pick (.tmp 24) (.tmp 28) (.const (Value.bool false)))⟩,
  ⟨(some 30), none, (.pick (.tmp 21) (.const (Value.bool true)) (.tmp 29))⟩,
  ⟨(some 31), none, (.mv (.tmp 30))⟩,
  ⟨(some 32), (some (some 31, false)), (.fld 2 2 1 (.tmp 1))⟩,
  ⟨(some 33), (some (some 31, false)), (.ld 1 false (.tmp 32))⟩,
  ⟨(some 34), (some (some 31, false)), (.un .not (.tmp 33))⟩,
  ⟨(some 35), (some (some 31, false)), (.mv (.tmp 34))⟩,
  ⟨(some 36), (some (some 35, true)), (.fld 4 4 1 (.tmp 1))⟩,
  ⟨(some 37), (some (some 35, true)), (.ld 1 false (.tmp 36))⟩,
  ⟨(some 38), (some (some 35, true)), (.len (.tmp 37))⟩,
  ⟨(some 39), (some (some 35, true)), (.bin .gtr (.tmp 38) (.const (Value.int .i64 0)))⟩,
  ⟨(some 40), (some (some 31, false)), (.pick (.tmp 35) (.tmp 39) (.const (Value.bool false)))⟩,
  ⟨(some 41), none, (.pick (.tmp 31) (.const (Value.bool true)) (.tmp 40))⟩])
 (.cond (.tmp 41) (.seq (.reg [⟨(some 2), none, (.mv (.const (Value.bool false)))⟩])
 .ret)
 .skip))
 (.seq (.reg [⟨(some 42), none, (.fld 4 4 1 (.tmp 1))⟩,
  ⟨(some 43), none, (.ld 1 false (.tmp 42))⟩,
  ⟨(some 44), none, (.call 157 [(.tmp 43), (.func 158)])⟩,
  ⟨(some 45), none, (.un .not (.tmp 44))⟩,
  ⟨(some 2), none, (.mv (.tmp 45))⟩])
 .ret)))

def cc125 : CC :=
 (.seq (.reg [⟨(some 2), none, (.box 5 (.tmp 0))⟩,
  ⟨(some 3), none, (.box 1 (.tmp 1))⟩,
  ⟨(some 4), none, (.mv (.const (Value.bool false)))⟩])
 (.seq (.reg [⟨(some 5), none, (.ld 1 false (.tmp 3))⟩,
  ⟨(some 6), none, (.bin .lss (.tmp 5) (.const (Value.int .i64 1)))⟩,
  ⟨(some 7), none, (.mv (.tmp 6))⟩,
  ⟨(some 8), (some (some 7, false)), (.fld 4 4 1 (.tmp 2))⟩,
  ⟨(some 9), (some (some 7, false)), (.ld 1 false (.tmp 8))⟩,
  ⟨(some 10), (some (some 7, false)), (.mkf 159 [(.tmp 3)])⟩,
  ⟨(some 11), (some (some 7, false)), (.call 157 [(.tmp 9), (.tmp 10)])⟩,
  ⟨(some 12), none, (.pick (.tmp 7) (.const (Value.bool true)) (.tmp 11))⟩,
  ⟨(some 4), none, (.mv (.tmp 12))⟩])
 .ret))

def cc126_0 : CC :=
 (.seq (.seq (.reg [⟨(some 8), none, (.mv (.tmp 4))⟩,
  ⟨(some 9), none, (.fld 4 4 1 (.tmp 1))⟩,
  ⟨(some 10), none, (.ld 1 false (.tmp 9))⟩,
  ⟨(some 11), none, (.len (.tmp 10))⟩,
  ⟨(some 12), none, (.bin .lss (.tmp 8) (.tmp 11))⟩,
  ⟨(some 13), none, (.mv (.tmp 12))⟩,
  ⟨(some 14), (some (some 13, true)), (.mv (.tmp 3))⟩,
  ⟨(some 15), (some (some 13, true)), (.bin .leq (.tmp 14) (.const (Value.int .i64 1048576)))⟩,
  ⟨(some 16), none, (.pick (.tmp 13) (.tmp 15) (.const (Value.bool false)))⟩])
 (.cond (.tmp 16) .skip
 (.exit 0)))
 (.seq (.blk 1 (.reg [⟨(some 19), none, (.mv (.tmp 3))⟩,
  ⟨(some 20), none, (.fld 4 4 1 (.tmp 1))⟩,
  ⟨(some 21), none, (.ld 1 false (.tmp 20))⟩,
  ⟨(some 22), none, (.mv (.tmp 4))⟩,
  ⟨(some 23), none, (.idxS 5 (.tmp 21) (.tmp 22))⟩,
  ⟨(some 24), none, (.ld 5 true (.tmp 23))⟩,
  ⟨(some 25), none, (.call 126 [(.tmp 24)])⟩,
  ⟨(some 26), none, (.bin .add (.tmp 19) (.tmp 25))⟩,
  ⟨(some 3), none, (.mv (.tmp 26))⟩]))
 (.reg [⟨(some 17), none, (.mv (.tmp 4))⟩,
  ⟨(some 18), none, (.bin .add (.tmp 17) (.const (Value.int .i64 1)))⟩,
  ⟨(some 4), none, (.mv (.tmp 18))⟩])))

def cc126_1 : CC :=
 (.seq (.reg [⟨(some 27), none, (.mv (.tmp 3))⟩,
  ⟨(some 28), none, (.mv (.tmp 3))⟩,
  ⟨(some 29), none, (.call 127 [(.tmp 28)])⟩,
  ⟨(some 30), none, (.bin .add (.tmp 27) (.tmp 29))⟩,
  ⟨(some 2), none, (.mv (.tmp 30))⟩])
 .ret)

def cc126 : CC :=
 (.seq (.reg [⟨(some 1), none, (.box 5 (.tmp 0))⟩,
  ⟨(some 2), none, (.mv (.const (Value.int .i64 0)))⟩])
 (.seq (.reg [⟨(some 5), none, (.fld 3 3 1 (.tmp 1))⟩,
  ⟨(some 6), none, (.ld 1 false (.tmp 5))⟩,
  ⟨(some 7), none, (.len (.tmp 6))⟩,
  ⟨(some 3), none, (.mv (.tmp 7))⟩])
 (.seq (.seq (.reg [⟨(some 4), none, (.mv (.const (Value.int .i64 0)))⟩])
 (.blk 0 (.loop cc126_0)))
 cc126_1)))

def cc127 : CC :=
 (.seq (.reg [⟨(some 2), none, (.mv (.const (Value.int .i64 0)))⟩])
 (.seq (.blk 0 (.seq (.reg [⟨(some 4), none, (.mv (.tmp 0))⟩,
  ⟨(some 5), none, (.bin .lss (.tmp 4) (.const (Value.int .i64 128)))⟩,
  ⟨(some 3), none, (.mv (.tmp 5))⟩])
 (.cond (.tmp 3) (.seq (.reg [⟨(some 2), none, (.mv (.const (Value.int .i64 2)))⟩])
 .ret)
 (.seq (.reg [⟨(some 7), none, (.mv (.tmp 0))⟩,
  ⟨(some 8), none, (.bin .lss (.tmp 7) (.const (Value.int .i64 256)))⟩,
  ⟨(some 6), none, (.mv (.tmp 8))⟩])
 (.cond (.tmp 6) (.seq (.reg [⟨(some 2), none, (.mv (.const (Value.int .i64 3)))⟩])
 .ret)
 (.seq (.reg [⟨(some 10), none, (.mv (.tmp 0))⟩,
  ⟨(some 11), none, (.bin .lss (.tmp 10) (.const (Value.int .i64 65536)))⟩,
  ⟨(some 9), none, (.mv (.tmp 11))⟩])
 (.cond (.tmp 9) (.seq (.reg [⟨(some 2), none, (.mv (.const (Value.int .i64 4)))⟩])
 .ret)
 .skip)))))))
 (.seq (.reg [⟨(some 2), none, (.mv (.const (Value.int .i64 5)))⟩])
 .ret)))

def cc128_0 : CC :=
 (.seq (.seq (.reg [⟨(some 11), none, (.mv (.tmp 8))⟩,
  ⟨(some 12), none, (.mv (.tmp 0))⟩,
  ⟨(some 13), none, (.bin .lss (.tmp 11) (.tmp 12))⟩])
 (.cond (.tmp 13) .skip
 (.exit 0)))
 (.seq (.blk 1 (.reg [⟨(some 16), none, (.mv (.tmp 7))⟩,
  ⟨(some 17), none, (.bin .add (.tmp 16) (.const (Value.int .i64 337)))⟩,
  ⟨(some 18), none, (.mv (.tmp 8))⟩,
  ⟨(some 19), none, (.call 160 [(.tmp 18), (.const (Value.int .i64 2))])⟩,
  ⟨(some 20), none, (.bin .add (.tmp 17) (.tmp 19))⟩,
  ⟨(some 7), none, (.mv (.tmp 20))⟩]))
 (.reg [⟨(some 14), none, (.mv (.tmp 8))⟩,
  ⟨(some 15), none, (.bin .add (.tmp 14) (.const (Value.int .i64 1)))⟩,
  ⟨(some 8), none, (.mv (.tmp 15))⟩])))

def cc128_2 : CC :=
 (.seq (.seq (.reg [⟨(some 22), none, (.mv (.tmp 9))⟩,
  ⟨(some 23), none, (.bin .lss (.tmp 22) (.const (Value.int .i64 1970)))⟩])
 (.cond (.tmp 23) .skip
 (.exit 2)))
 (.seq (.blk 3 (.reg [⟨(some 26), none, (.mv (.tmp 7))⟩,
  ⟨(some 27), none, (.bin .sub (.tmp 26) (.const (Value.int .i64 337)))⟩,
  ⟨(some 28), none, (.mv (.tmp 9))⟩,
  ⟨(some 29), none, (.call 160 [(.tmp 28), (.const (Value.int .i64 2))])⟩,
  ⟨(some 30), none, (.bin .sub (.tmp 27) (.tmp 29))⟩,
  ⟨(some 7), none, (.mv (.tmp 30))⟩]))
 (.reg [⟨(some 24), none, (.mv (.tmp 9))⟩,
  ⟨(some 25), none, (.bin .add (.tmp 24) (.const (Value.int .i64 1)))⟩,
  ⟨(some 9), none, (.mv (.tmp 25))⟩])))

def cc128_4 : CC :=
 (.seq (.seq (.reg [⟨(some 31), none, (.mv (.tmp 10))⟩,
  ⟨(some 32), none, (.mv (.tmp 1))⟩,
  ⟨(some 33), none, (.bin .lss (.tmp 31) (.tmp 32))⟩])
 (.cond (.tmp 33) .skip
 (.exit 4)))
 (.seq (.blk 5 (.reg [⟨(some 36), none, (.mv (.tmp 7))⟩,
  ⟨(some 37), none, (.mv (.tmp 0))⟩,
  ⟨(some 38), none, (.mv (.tmp 10))⟩,
  ⟨(some 39), none, (.call 160 [(.tmp 37), (.tmp 38)])⟩,
  ⟨(some 40), none, (.bin .add (.tmp 36) (.tmp 39))⟩,
  ⟨(some 7), none, (.mv (.tmp 40))⟩]))
 (.reg [⟨(some 34), none, (.mv (.tmp 10))⟩,
  ⟨(some 35), none, (.bin .add (.tmp 34) (.const (Value.int .i64 1)))⟩,
  ⟨(some 10), none, (.mv (.tmp 35))⟩])))

def cc128_5 : CC :=
 (.seq (.reg [⟨(some 41), none, (.mv (.tmp 7))⟩,
  ⟨(some 42), none, (.mv (.tmp 2))⟩,
  ⟨(some 43), none, (.bin .add (.tmp 41) (.tmp 42))⟩,
  ⟨(some 44), none, (.bin .sub (.tmp 43) (.const (Value.int .i64 1)))⟩,
  ⟨(some 45), none, (.bin .mul (.tmp 44) (.const (Value.int .i64 86400)))⟩,
  ⟨(some 6), none, (.mv (.tmp 45))⟩])
 .ret)

def cc128_3 : CC :=
 (.seq (.seq (.reg [⟨(some 10), none, (.mv (.const (Value.int .i64 1)))⟩])
 (.blk 4 (.loop cc128_4)))
 cc128_5)

def cc128_1 : CC :=
 (.seq (.seq (.reg [⟨(some 21), none, (.mv (.tmp 0))⟩,
  ⟨(some 9), none, (.mv (.tmp 21))⟩])
 (.blk 2 (.loop cc128_2)))
 cc128_3)

def cc128 : CC :=
 (.seq (.reg [⟨(some 6), none, (.mv (.const (Value.int .i64 0)))⟩])
 (.seq (.reg [⟨(some 7), none, (.mv (.const (Value.int .i64 0)))⟩])
 (.seq (.seq (.reg [⟨(some 8), none, (.mv (.const (Value.int .i64 1970)))⟩])
 (.blk 0 (.loop cc128_0)))
 cc128_1)))

def cc129 : CC :=
 (.seq (.reg [⟨(some 2), none, (.mv (.const (Value.slice none 0 0)))⟩])
 (.seq (.reg [⟨(some 3), none, (.mv (.tmp 0))⟩,
  ⟨(some 4), none, (.bin .quo (.tmp 3) (.const (Value.int .i64 10)))⟩,
  ⟨(some 5), none, (.bin .add (.const (Value.int .i64 48)) (.tmp 4))⟩,
  ⟨(some 6), none, (.cvI .u8 (.tmp 5))⟩,
  ⟨(some 7), none, (.mv (.tmp 0))⟩,
  ⟨(some 8), none, (.bin .rem (.tmp 7) (.const (Value.int .i64 10)))⟩,
  ⟨(some 9), none, (.bin .add (.const (Value.int .i64 48)) (.tmp 8))⟩,
  ⟨(some 10), none, (.cvI .u8 (.tmp 9))⟩,
  ⟨(some 11), none, (.bsl 5 1 2 (.v (.int .u8 0)) [(0, (.tmp 6)), (1, (.tmp 10))])⟩,
  ⟨(some 2), none, (.mv (.tmp 11))⟩])
 .ret))

def cc130_0 : CC :=
 (.seq (.seq (.reg [⟨(some 35), none, (.mv (.tmp 4))⟩,
  ⟨(some 36), none, (.mv (.tmp 0))⟩,
  ⟨(some 37), none, (.len (.tmp 36))⟩,
  ⟨(some 38), none, (.bin .lss (.tmp 35) (.tmp 37))⟩])
 (.cond (.tmp 38) .skip
 (.exit 0)))
 (.seq (.blk 1 (.seq (.reg [⟨(some 41), none, (.mv (.tmp 0))⟩,
  ⟨(some 42), none, (.mv (.tmp 4))⟩,
  ⟨(some 43), none, (.idxS 1 (.tmp 41) (.tmp 42))⟩,
  ⟨(some 44), none, (.ld 1 false (.tmp 43))⟩,
  ⟨(some 45), none, (.bin .gtr (.tmp 44) (.const (Value.int .u64 4294967295)))⟩])
 (.cond (.tmp 45) (.seq (.reg [⟨(some 2), none, (.mv (.const (Value.slice none 0 0)))⟩,
  ⟨(some 3), none, (.mv (.const (Value.int .i64 1)))⟩])
 .ret)
 .skip)))
 (.reg [⟨(some 39), none, (.mv (.tmp 4))⟩,
  ⟨(some 40), none, (.bin .add (.tmp 39) (.const (Value.int .i64 1)))⟩,
  ⟨(some 4), none, (.mv (.tmp 40))⟩])))

def cc130_4 : CC :=
 (.seq (.seq (.reg [⟨(some 70), none, (.mv (.tmp 7))⟩,
  ⟨(some 71), none, (.bin .gtr (.tmp 70) (.const (Value.int .u64 0)))⟩])
 (.cond (.tmp 71) .skip
 (.exit 4)))
 (.blk 5 (.seq (.reg [⟨(some 72), none, (.mv (.tmp 7))⟩,
  ⟨(some 73), none, (.bin .rem (.tmp 72) (.const (Value.int .u64 128)))⟩,
  ⟨(some 74), none, (.bin .add (.const (Value.int .u64 128)) (.tmp 73))⟩,
  ⟨(some 75), none, (.cvI .u8 (.tmp 74))⟩,
  ⟨(some 76), none, (.bsl 5 1 1 (.v (.int .u8 0)) [(0, (.tmp 75))])⟩,
  ⟨(some 77), none, (.mv (.tmp 8))⟩,
  ⟨(some 78), none, (.app 5 1 1 (.tmp 76) (.tmp 77))⟩,
  ⟨(some 8), none, (.mv (.tmp 78))⟩])
 (.reg [⟨(some 79), none, (.mv (.tmp 7))⟩,
  ⟨(some 80), none, (.bin .quo (.tmp 79) (.const (Value.int .u64 128)))⟩,
  ⟨(some 7), none, (.mv (.tmp 80))⟩]))))

def cc130_5 : CC :=
 (.reg [⟨(some 81), none, (.mv (.tmp 5))⟩,
  ⟨(some 82), none, (.mv (.tmp 8))⟩,
  ⟨(some 83), none, (.app 5 1 1 (.tmp 81) (.tmp 82))⟩,
  ⟨(some 5), none, (.mv (.tmp 83))⟩])

def cc130_6 : CC :=
 (.reg [⟨(some 50), none, (.mv (.tmp 6))⟩,
  ⟨(some 51), none, (.bin .add (.tmp 50) (.const (Value.int .i64 1)))⟩,
  ⟨(some 6), none, (.mv (.tmp 51))⟩])

def cc130_2 : CC :=
 (.seq (.seq (.reg [⟨(some 46), none, (.mv (.tmp 6))⟩,
  ⟨(some 47), none, (.mv (.tmp 0))⟩,
  ⟨(some 48), none, (.len (.tmp 47))⟩,
  ⟨(some 49), none, (.bin .lss (.tmp 46) (.tmp 48))⟩])
 (.cond (.tmp 49) .skip
 (.exit 2)))
 (.seq (.blk 3 (.seq (.reg [⟨(some 52), none, (.mv (.tmp 0))⟩,
  ⟨(some 53), none, (.mv (.tmp 6))⟩,
  ⟨(some 54), none, (.idxS 1 (.tmp 52) (.tmp 53))⟩,
  ⟨(some 55), none, (.ld 1 false (.tmp 54))⟩,
  ⟨(some 7), none, (.mv (.tmp 55))⟩])
 (.seq (.seq (.reg [⟨(some 56), none, (.mv (.tmp 6))⟩,
  ⟨(some 57), none, (.bin .eql (.tmp 56) (.const (Value.int .i64 1)))⟩])
 (.cond (.tmp 57) (.reg [⟨(some 58), none, (.mv (.tmp 7))⟩,
  ⟨(some 59), none, (.mv (.tmp 0))⟩,
  ⟨(some 60), none, (.idxS 1 (.tmp 59) (.const (Value.int .i64 0)))⟩,
  ⟨(some 61), none, (.ld 1 false (.tmp 60))⟩,
  ⟨(some 62), none, (.bin .mul (.const (Value.int .u64 40)) (.tmp 61))⟩,
  ⟨(some 63), none, (.bin .add (.tmp 58) (.tmp 62))⟩,
  ⟨(some 7), none, (.mv (.tmp 63))⟩])
 .skip))
 (.seq (.reg [⟨(some 64), none, (.mv (.tmp 7))⟩,
  ⟨(some 65), none, (.bin .rem (.tmp 64) (.const (Value.int .u64 128)))⟩,
  ⟨(some 66), none, (.cvI .u8 (.tmp 65))⟩,
  ⟨(some 67), none, (.bsl 5 1 1 (.v (.int .u8 0)) [(0, (.tmp 66))])⟩,
  ⟨(some 8), none, (.mv (.tmp 67))⟩])
 (.seq (.reg [⟨(some 68), none, (.mv (.tmp 7))⟩,
  ⟨(some 69), none, (.bin .quo (.tmp 68) (.const (Value.int .u64 128)))⟩,
  ⟨(some 7), none, (.mv (.tmp 69))⟩])
 (.seq (.blk 4 (.loop cc130_4))
 cc130_5))))))
 cc130_6))

def cc130_3 : CC :=
 (.seq (.reg [⟨(some 84), none, (.mv (.tmp 5))⟩,
  ⟨(some 2), none, (.mv (.tmp 84))⟩,
  ⟨(some 3), none, (.mv (.const (Value.int .i64 0)))⟩])
 .ret)

def cc130_1 : CC :=
 (.seq (.reg [⟨(some 5), none, (.mv (.const (Value.slice none 0 0)))⟩])
 (.seq (.seq (.reg [⟨(some 6), none, (.mv (.const (Value.int .i64 1)))⟩])
 (.blk 2 (.loop cc130_2)))
 cc130_3))

def cc130 : CC :=
 (.seq (.reg [⟨(some 2), none, (.mv (.const (Value.slice none 0 0)))⟩,
  ⟨(some 3), none, (.mv (.const (Value.int .i64 0)))⟩])
 (.seq (.seq (.reg [⟨(some 9), none, (.mv (.tmp 0))⟩,
  ⟨(some 10), none, (.len (.tmp 9))⟩,
  ⟨(some 11), none, (.bin .lss (.tmp 10) (.const (Value.int .i64 2)))⟩,
  ⟨(some 12), none, (.mv (.tmp 11))⟩,
  ⟨(some 13), (some (some 12, false)), (.mv (.tmp 0))⟩,
  ⟨(some 14), (some (some 12, false)), (.len (.tmp 13))⟩,
  ⟨(some 15), (some (some 12, false)), (.bin .gtr (.tmp 14) (.const (Value.int .i64 16)))⟩,
  ⟨(some 16), none, (.pick (.tmp 12) (.const (Value.bool true)) (.tmp 15))⟩,
  ⟨(some 17), none, (.mv (.tmp 16))⟩,
  ⟨(some 18), (some (some 17, false)), (.mv (.tmp 0))⟩,
  ⟨(some 19), (some (some 17, false)), (.idxS 1 (.tmp 18) (.const (Value.int .i64 0)))⟩,
  ⟨(some 20), (some (some 17, false)), (.ld 1 false (.tmp 19))⟩,
  ⟨(some 21), (some (some 17, false)), (.bin .gtr (.tmp 20) (.const (Value.int .u64 2)))⟩,
  ⟨(some 22), none, (.pick (.tmp 17) (.const (Value.bool true)) (.tmp 21))⟩,
  ⟨(some 23), none, (.mv (.tmp 22))⟩,
  ⟨(some 24), (some (some 23, false)), (.mv (.tmp 0))⟩,
  ⟨(some 25), (some (some 23, false)), (.idxS 1 (.tmp 24) (.const (Value.int .i64 0)))⟩,
  ⟨(some 26), (some (some 23, false)), (.ld 1 false (.tmp 25))⟩,
  ⟨(some 27), (some (some 23, false)), (.bin .lss (.tmp 26) (.const (Value.int .u64 2)))⟩,
  ⟨(some 28), (some (some 23, false)), (.mv (.tmp 27))⟩,
  ⟨(some 29), (some (some 28, true)), (.mv (.tmp 0))⟩,
  ⟨(some 30), (some (some 28, true)), (.idxS 1 (.tmp 29) (.const (Value.int .i64 1)))⟩,
  ⟨(some 31), (some (some 28, true)), (.ld 1 false (.tmp 30))⟩,
  ⟨(some 32), (some (some 28, true)), (.bin .gtr (.tmp 31) (.const (Value.int .u64 39)))⟩,
  ⟨(some 33), (some (some 23, false)), (.pick (.tmp 28) (.tmp 32) (.const (Value.bool false)))⟩,
  ⟨(some 34), none, (.pick (.tmp 23) (.const (Value.bool true)) (.tmp 33))⟩])
 (.cond (.tmp 34) (.seq (.reg [⟨(some 2), none, (.mv (.const (Value.slice none 0 0)))⟩,
  ⟨(some 3), none, (.mv (.const (Value.int .i64 1)))⟩])
 .ret)
 .skip))
 (.seq (.seq (.reg [⟨(some 4), none, (.mv (.const (Value.int .i64 0)))⟩])
 (.blk 0 (.loop cc130_0)))
 cc130_1)))

def cc153_0 : CC :=
 (.seq (.reg [⟨(some 9), none, (.bin .lss (.tmp 8) (.tmp 7))⟩])
 (.seq (.cond (.tmp 9) .skip
 (.exit 0))
 (.seq (.blk 1 (.seq (.reg [⟨(some 10), none, (.mv (.tmp 8))⟩,
  ⟨(some 5), none, (.mv (.tmp 10))⟩])
 (.seq (.reg [⟨(some 11), none, (.mv (.tmp 1))⟩,
  ⟨(some 12), none, (.mv (.tmp 0))⟩,
  ⟨(some 13), none, (.mv (.tmp 5))⟩,
  ⟨(some 14), none, (.idxS 1 (.tmp 12) (.tmp 13))⟩,
  ⟨(some 15), none, (.ld 1 false (.tmp 14))⟩,
  ⟨(some 16), none, (.callV (.tmp 11) [(.tmp 15)])⟩])
 (.cond (.tmp 16) (.seq (.reg [⟨(some 17), none, (.mv (.tmp 5))⟩,
  ⟨(some 4), none, (.mv (.tmp 17))⟩])
 .ret)
 .skip))))
 (.reg [⟨(some 18), none, (.bin .add (.tmp 8) (.const (Value.int .i64 1)))⟩,
  ⟨(some 8), none, (.mv (.tmp 18))⟩]))))

def cc153_1 : CC :=
 (.seq (.reg [⟨(some 4), none, (.mv (.const (Value.int .i64 (-1))))⟩])
 .ret)

def cc153 : CC :=
 (.seq (.reg [⟨(some 4), none, (.mv (.const (Value.int .i64 0)))⟩])
 (.seq (.seq (.reg [⟨(some 6), none, (.mv (.tmp 0))⟩,
  ⟨(some 7), none, (.len (.tmp 6))⟩,
  ⟨(some 8), none, (.mv (.const (Value.int .i64 0)))⟩])
 (.blk 0 (.loop cc153_0)))
 cc153_1))

def cc154 : CC :=
 (.seq (.reg [⟨(some 2), none, (.mv (.const (Value.bool false)))⟩])
 (.seq (.reg [⟨(some 3), none, (.mv (.tmp 0))⟩,
  ⟨(some 4), none, (.bin .rem (.tmp 3) (.const (Value.int .i64 4)))⟩,
  ⟨(some 5), none, (.bin .eql (.tmp 4) (.const (Value.int .i64 0)))⟩,
  ⟨(some 6), none, (.mv (.tmp 5))⟩,
  ⟨(some 7), (some (some 6, true)), (.mv (.tmp 0))⟩,
  ⟨(some 8), (some (some 6, true)), (.bin .rem (.tmp 7) (.const (Value.int .i64 100)))⟩,
  ⟨(some 9), (some (some 6, true)), (.bin .neq (.tmp 8) (.const (Value.int .i64 0)))⟩,
  ⟨(some 10), (some (some 6, true)), (.mv (.tmp 9))⟩,
  ⟨(some 11), (some (some 10, false)), (.mv (.tmp 0))⟩,
  ⟨(some 12), (some (some 10, false)), (.bin .rem (.tmp 11) (.const (Value.int .i64 400)))⟩,
  ⟨(some 13), (some (some 10, false)), (.bin .eql (.tmp 12) (.const (Value.int .i64 0)))⟩,
  ⟨(some 14), (some (some 6, true)), (.pick (.tmp 10) (.const (Value.bool true)) (.tmp 13))⟩,
  ⟨(some 15), none, (.pick (.tmp 6) (.tmp 14) (.const (Value.bool false)))⟩,
  ⟨(some 2), none, (.mv (.tmp 15))⟩])
 .ret))

def cc155 : CC :=
 (.seq (.reg [⟨(some 4), none, (.mv (.const (Value.bool false)))⟩])
 (.seq (.reg [⟨(some 5), none, (.mv (.tmp 0))⟩,
  ⟨(some 6), none, (.mv (.tmp 1))⟩,
  ⟨(some 7), none, (.call 166 [(.tmp 5), (.tmp 6)])⟩,
  ⟨(some 8), none, (.bin .geq (.tmp 7) (.const (Value.int .i64 0)))⟩,
  ⟨(some 4), none, (.mv (.tmp 8))⟩])
 .ret))

def cc156 : CC :=
 (.seq (.reg [⟨(some 2), none, (.mv (.const (Value.bool false)))⟩])
 (.seq (.reg [⟨(some 3), none, (.mv (.tmp 0))⟩,
  ⟨(some 4), none, (.bin .gtr (.tmp 3) (.const (Value.int .u64 4294967295)))⟩,
  ⟨(some 2), none, (.mv (.tmp 4))⟩])
 .ret))

def cc157 : CC :=
 (.seq (.reg [⟨(some 4), none, (.mv (.const (Value.bool false)))⟩])
 (.seq (.reg [⟨(some 5), none, (.mv (.tmp 0))⟩,
  ⟨(some 6), none, (.mv (.tmp 1))⟩,
  ⟨(some 7), none, (.call 167 [(.tmp 5), (.tmp 6)])⟩,
  ⟨(some 8), none, (.bin .geq (.tmp 7) (.const (Value.int .i64 0)))⟩,
  ⟨(some 4), none, (.mv (.tmp 8))⟩])
 .ret))

def cc158 : CC :=
 (.seq (.reg [⟨(some 1), none, (.box 5 (.tmp 0))⟩,
  ⟨(some 2), none, (.mv (.const (Value.bool false)))⟩])
 (.seq (.reg [⟨(some 3), none, (.ld 5 true (.tmp 1))⟩,
  ⟨(some 4), none, (.call 124 [(.tmp 3)])⟩,
  ⟨(some 5), none, (.un .not (.tmp 4))⟩,
  ⟨(some 2), none, (.mv (.tmp 5))⟩])
 .ret))

def cc159 : CC :=
 (.seq (.reg [⟨(some 2), none, (.box 5 (.tmp 0))⟩,
  ⟨(some 3), none, (.mv (.const (Value.bool false)))⟩])
 (.seq (.reg [⟨(some 4), none, (.ld 5 true (.tmp 2))⟩,
  ⟨(some 5), none, (.ld 1 false (.tmp 1))⟩,
  ⟨(some 6), none, (.bin .sub (.tmp 5) (.const (Value.int .i64 1)))⟩,
  ⟨(some 7), none, (.call 125 [(.tmp 4), (.tmp 6)])⟩,
  ⟨(some 3), none, (.mv (.tmp 7))⟩])
 .ret))

def cc160 : CC :=
 (.seq (.reg [⟨(some 4), none, (.mv (.const (Value.int .i64 0)))⟩])
 (.seq (.reg [⟨(some 7), none, (.bsl 3 1 12 (.v (.int .i64 0)) [(0, (.const (Value.int .i64 31))), (1, (.const (Value.int .i64 28))), (2, (.const (Value.int .i64 31))), (3, (.const (Value.int .i64 30))), (4, (.const (Value.int .i64 31))), (5, (.const (Value.int .i64 30))), (6, (.const (Value.int .i64 31))), (7, (.const (Value.int .i64 31))), (8, (.const (Value.int .i64 30))), (9, (.const (Value.int .i64 31))), (10, (.const (Value.int .i64 30))), (11, (.const (Value.int .i64 31)))])⟩,
  ⟨(some 5), none, (.mv (.tmp 7))⟩])
 (.seq (.reg [⟨(some 8), none, (.mv (.tmp 0))⟩,
  ⟨(some 9), none, (.bin .rem (.tmp 8) (.const (Value.int .i64 400)))⟩,
  ⟨(some 10), none, (.bin .eql (.tmp 9) (.const (Value.int .i64 0)))⟩,
  ⟨(some 11), none, (.mv (.tmp 10))⟩,
  ⟨(some 12), (some (some 11, false)), (.mv (.tmp 0))⟩,
  ⟨(some 13), (some (some 11, false)), (.bin .rem (.tmp 12) (.const (Value.int .i64 4)))⟩,
  ⟨(some 14), (some (some 11, false)), (.bin .eql (.tmp 13) (.const (Value.int .i64 0)))⟩,
  ⟨(some 15), (some (some 11, false)), (.mv (.tmp 14))⟩,
  ⟨(some 16), (some (some 15, true)), (.mv (.tmp 0))⟩,
  ⟨(some 17), (some (some 15, true)), (.bin .rem (.tmp 16) (.const (Value.int .i64 100)))⟩,
  ⟨(some 18), (some (some 15, true)), (.bin .neq (.tmp 17) (.const (Value.int .i64 0)))⟩,
  ⟨(some 19), (some (some 11, false)), (.pick (.tmp 15) (.tmp 18) (.const (Value.bool false)))⟩,
  ⟨(some 20), none, (.pick (.tmp 11) (.const (Value.bool true)) (.tmp 19))⟩,
  ⟨(some 6), none, (.mv (.tmp 20))⟩])
 (.seq (.seq (.reg [⟨(some 21), none, (.mv (.tmp 1))⟩,
  ⟨(some 22), none, (.bin .eql (.tmp 21) (.const (Value.int .i64 2)))⟩,
  ⟨(some 23), none, (.mv (.tmp 22))⟩,
  ⟨(some 24), (some (some 23, true)), (.mv (.tmp 6))⟩,
  ⟨(some 25), none, (.pick (.tmp 23) (.tmp 24) (.const (Value.bool false)))⟩])
 (.cond (.tmp 25) (.seq (.reg [⟨(some 4), none, (.mv (.const (Value.int .i64 29)))⟩])
 .ret)
 .skip))
 (.seq (.reg [⟨(some 26), none, (.mv (.tmp 5))⟩,
  ⟨(some 27), none, (.mv (.tmp 1))⟩,
  ⟨(some 28), none, (.bin .sub (.tmp 27) (.const (Value.int .i64 1)))⟩,
  ⟨(some 29), none, (.idxS 1 (.tmp 26) (.tmp 28))⟩,
  ⟨(some 30), none, (.ld 1 false (.tmp 29))⟩,
  ⟨(some 4), none, (.mv (.tmp 30))⟩])
 .ret)))))

def cc166_0 : CC :=
 (.seq (.reg [⟨(some 9), none, (.bin .lss (.tmp 8) (.tmp 7))⟩])
 (.seq (.cond (.tmp 9) .skip
 (.exit 0))
 (.seq (.blk 1 (.seq (.reg [⟨(some 10), none, (.mv (.tmp 8))⟩,
  ⟨(some 5), none, (.mv (.tmp 10))⟩])
 (.seq (.reg [⟨(some 11), none, (.mv (.tmp 1))⟩,
  ⟨(some 12), none, (.mv (.tmp 0))⟩,
  ⟨(some 13), none, (.mv (.tmp 5))⟩,
  ⟨(some 14), none, (.idxS 1 (.tmp 12) (.tmp 13))⟩,
  ⟨(some 15), none, (.ld 1 false (.tmp 14))⟩,
  ⟨(some 16), none, (.callV (.tmp 11) [(.tmp 15)])⟩])
 (.cond (.tmp 16) (.seq (.reg [⟨(some 17), none, (.mv (.tmp 5))⟩,
  ⟨(some 4), none, (.mv (.tmp 17))⟩])
 .ret)
 .skip))))
 (.reg [⟨(some 18), none, (.bin .add (.tmp 8) (.const (Value.int .i64 1)))⟩,
  ⟨(some 8), none, (.mv (.tmp 18))⟩]))))

def cc166_1 : CC :=
 (.seq (.reg [⟨(some 4), none, (.mv (.const (Value.int .i64 (-1))))⟩])
 .ret)

def cc166 : CC :=
 (.seq (.reg [⟨(some 4), none, (.mv (.const (Value.int .i64 0)))⟩])
 (.seq (.seq (.reg [⟨(some 6), none, (.mv (.tmp 0))⟩,
  ⟨(some 7), none, (.len (.tmp 6))⟩,
  ⟨(some 8), none, (.mv (.const (Value.int .i64 0)))⟩])
 (.blk 0 (.loop cc166_0)))
 cc166_1))

def cc167_0 : CC :=
 (.seq (.reg [⟨(some 9), none, (.bin .lss (.tmp 8) (.tmp 7))⟩])
 (.seq (.cond (.tmp 9) .skip
 (.exit 0))
 (.seq (.blk 1 (.seq (.reg [⟨(some 10), none, (.mv (.tmp 8))⟩,
  ⟨(some 5), none, (.mv (.tmp 10))⟩])
 (.seq (.reg [⟨(some 11), none, (.mv (.tmp 1))⟩,
  ⟨(some 12), none, (.mv (.tmp 0))⟩,
  ⟨(some 13), none, (.mv (.tmp 5))⟩,
  ⟨(some 14), none, (.idxS 5 (.tmp 12) (.tmp 13))⟩,
  ⟨(some 15), none, (.ld 5 true (.tmp 14))⟩,
  ⟨(some 16), none, (.callV (.tmp 11) [(.tmp 15)])⟩])
 (.cond (.tmp 16) (.seq (.reg [⟨(some 17), none, (.mv (.tmp 5))⟩,
  ⟨(some 4), none, (.mv (.tmp 17))⟩])
 .ret)
 .skip))))
 (.reg [⟨(some 18), none, (.bin .add (.tmp 8) (.const (Value.int .i64 1)))⟩,
  ⟨(some 8), none, (.mv (.tmp 18))⟩]))))

def cc167_1 : CC :=
 (.seq (.reg [⟨(some 4), none, (.mv (.const (Value.int .i64 (-1))))⟩])
 .ret)

def cc167 : CC :=
 (.seq (.reg [⟨(some 4), none, (.mv (.const (Value.int .i64 0)))⟩])
 (.seq (.seq (.reg [⟨(some 6), none, (.mv (.tmp 0))⟩,
  ⟨(some 7), none, (.len (.tmp 6))⟩,
  ⟨(some 8), none, (.mv (.const (Value.int .i64 0)))⟩])
 (.blk 0 (.loop cc167_0)))
 cc167_1))

noncomputable def PX : Eng.X := ⟨Tryd.prog, T, []⟩
theorem tT : TOk Tryd.prog T :=
  .cons ⟨by kernel_rfl, by kernel_rfl, by kernel_rfl, by kernel_rfl, show ((Tryd.prog.info? 2).map (·.comparable)) = some true from by kernel_rfl⟩ <|
  .cons ⟨by kernel_rfl, by kernel_rfl, by kernel_rfl, by kernel_rfl, show ((Tryd.prog.info? 3).map (·.comparable)) = some true from by kernel_rfl⟩ <|
  .cons ⟨by kernel_rfl, by kernel_rfl, by kernel_rfl, by kernel_rfl, trivial⟩ <|
  .cons ⟨by kernel_rfl, by kernel_rfl, by kernel_rfl, by kernel_rfl, show ((Tryd.prog.info? 5).map (·.comparable)) = some true from by kernel_rfl⟩ <|
  .cons ⟨by kernel_rfl, by kernel_rfl, by kernel_rfl, by kernel_rfl, trivial⟩ <|
  .cons ⟨by kernel_rfl, by kernel_rfl, by kernel_rfl, by kernel_rfl, trivial⟩ <|
  .cons ⟨by kernel_rfl, by kernel_rfl, by kernel_rfl, by kernel_rfl, show ((Tryd.prog.info? 24).map (·.comparable)) = some true from by kernel_rfl⟩ <|
  .cons ⟨by kernel_rfl, by kernel_rfl, by kernel_rfl, by kernel_rfl, trivial⟩ <|
  .cons ⟨by kernel_rfl, by kernel_rfl, by kernel_rfl, by kernel_rfl, trivial⟩ <|
  .cons ⟨by kernel_rfl, by kernel_rfl, by kernel_rfl, by kernel_rfl, trivial⟩ <|
  .cons ⟨by kernel_rfl, by kernel_rfl, by kernel_rfl, by kernel_rfl, trivial⟩ <|
  .cons ⟨by kernel_rfl, by kernel_rfl, by kernel_rfl, by kernel_rfl, show ((Tryd.prog.info? 40).map (·.comparable)) = some true from by kernel_rfl⟩ <|
  .cons ⟨by kernel_rfl, by kernel_rfl, by kernel_rfl, by kernel_rfl, trivial⟩ <|
  .cons ⟨by kernel_rfl, by kernel_rfl, by kernel_rfl, by kernel_rfl, trivial⟩ <|
  .cons ⟨by kernel_rfl, by kernel_rfl, by kernel_rfl, by kernel_rfl, trivial⟩ <|
  .cons ⟨by kernel_rfl, by kernel_rfl, by kernel_rfl, by kernel_rfl, trivial⟩ <|
  .cons ⟨by kernel_rfl, by kernel_rfl, by kernel_rfl, by kernel_rfl, trivial⟩ <|
  .cons ⟨by kernel_rfl, by kernel_rfl, by kernel_rfl, by kernel_rfl, trivial⟩ <|
  .cons ⟨by kernel_rfl, by kernel_rfl, by kernel_rfl, by kernel_rfl, trivial⟩ <|
  .cons ⟨by kernel_rfl, by kernel_rfl, by kernel_rfl, by kernel_rfl, trivial⟩ <|
  .cons ⟨by kernel_rfl, by kernel_rfl, by kernel_rfl, by kernel_rfl, trivial⟩ <|
  .cons ⟨by kernel_rfl, by kernel_rfl, by kernel_rfl, by kernel_rfl, trivial⟩ <|
  .cons ⟨by kernel_rfl, by kernel_rfl, by kernel_rfl, by kernel_rfl, trivial⟩ <|
  .cons ⟨by kernel_rfl, by kernel_rfl, by kernel_rfl, by kernel_rfl, trivial⟩ <|
  .cons ⟨by kernel_rfl, by kernel_rfl, by kernel_rfl, by kernel_rfl, trivial⟩ <|
  .cons ⟨by kernel_rfl, by kernel_rfl, by kernel_rfl, by kernel_rfl, trivial⟩ <|
  .cons ⟨by kernel_rfl, by kernel_rfl, by kernel_rfl, by kernel_rfl, trivial⟩ <|
  .nil
theorem hT : TOk PX.P PX.T := tT
theorem hm : PX.P.follows .mixedOrders = true := by kernel_rfl
theorem ieqC {a b : Int} {r : Bool} (h : (a == b) = r) : ieqQ T (.ifc 40 (eI .i64 a)) (.ifc 40 (eI .i64 b)) = some r := by subst h; rfl
theorem F5 : FnOk PX 5 ⟨53, cc5, [.t 4]⟩ := ⟨Tryd.f5, (Tryd.f5.body).getD .skip, Tryd.func5, by kernel_rfl, by kernel_rfl, by kernel_rfl, by kernel_rfl, by decide +kernel⟩
theorem F16 : FnOk PX 16 ⟨36, cc16, [.t 0]⟩ := ⟨Tryd.f16, (Tryd.f16.body).getD .skip, Tryd.func16, by kernel_rfl, by kernel_rfl, by kernel_rfl, by kernel_rfl, by decide +kernel⟩
theorem F18 : FnOk PX 18 ⟨107, cc18, [.t 2, .t 3]⟩ := ⟨Tryd.f18, (Tryd.f18.body).getD .skip, Tryd.func18, by kernel_rfl, by kernel_rfl, by kernel_rfl, by kernel_rfl, by decide +kernel⟩
theorem F19 : FnOk PX 19 ⟨108, cc19, [.t 2, .t 3]⟩ := ⟨Tryd.f19, (Tryd.f19.body).getD .skip, Tryd.func19, by kernel_rfl, by kernel_rfl, by kernel_rfl, by kernel_rfl, by decide +kernel⟩
theorem F20 : FnOk PX 20 ⟨9, cc20, [.t 4]⟩ := ⟨Tryd.f20, (Tryd.f20.body).getD .skip, Tryd.func20, by kernel_rfl, by kernel_rfl, by kernel_rfl, by kernel_rfl, by decide +kernel⟩
theorem F24 : FnOk PX 24 ⟨36, cc24, [.c 2 35, .t 3]⟩ := ⟨Tryd.f24, (Tryd.f24.body).getD .skip, Tryd.func24, by kernel_rfl, by kernel_rfl, by kernel_rfl, by kernel_rfl, by decide +kernel⟩
theorem F32 : FnOk PX 32 ⟨27, cc32, [.c 2 54, .t 3]⟩ := ⟨Tryd.f32, (Tryd.f32.body).getD .skip, Tryd.func32, by kernel_rfl, by kernel_rfl, by kernel_rfl, by kernel_rfl, by decide +kernel⟩
theorem F33 : FnOk PX 33 ⟨60, cc33, [.c 2 35, .t 3]⟩ := ⟨Tryd.f33, (Tryd.f33.body).getD .skip, Tryd.func33, by kernel_rfl, by kernel_rfl, by kernel_rfl, by kernel_rfl, by decide +kernel⟩
theorem F34 : FnOk PX 34 ⟨18, cc34, [.c 2 35, .t 3]⟩ := ⟨Tryd.f34, (Tryd.f34.body).getD .skip, Tryd.func34, by kernel_rfl, by kernel_rfl, by kernel_rfl, by kernel_rfl, by decide +kernel⟩
theorem F35 : FnOk PX 35 ⟨5, cc35, [.c 2 35]⟩ := ⟨Tryd.f35, (Tryd.f35.body).getD .skip, Tryd.func35, by kernel_rfl, by kernel_rfl, by kernel_rfl, by kernel_rfl, by decide +kernel⟩
theorem F36 : FnOk PX 36 ⟨3, cc36, [.c 0 35]⟩ := ⟨Tryd.f36, (Tryd.f36.body).getD .skip, Tryd.func36, by kernel_rfl, by kernel_rfl, by kernel_rfl, by kernel_rfl, by decide +kernel⟩
theorem F37 : FnOk PX 37 ⟨5, cc37, [.c 0 35]⟩ := ⟨Tryd.f37, (Tryd.f37.body).getD .skip, Tryd.func37, by kernel_rfl, by kernel_rfl, by kernel_rfl, by kernel_rfl, by decide +kernel⟩
theorem F38 : FnOk PX 38 ⟨30, cc38, [.c 2 35, .t 3]⟩ := ⟨Tryd.f38, (Tryd.f38.body).getD .skip, Tryd.func38, by kernel_rfl, by kernel_rfl, by kernel_rfl, by kernel_rfl, by decide +kernel⟩
theorem F39 : FnOk PX 39 ⟨16, cc39, [.t 2, .t 3]⟩ := ⟨Tryd.f39, (Tryd.f39.body).getD .skip, Tryd.func39, by kernel_rfl, by kernel_rfl, by kernel_rfl, by kernel_rfl, by decide +kernel⟩
theorem F40 : FnOk PX 40 ⟨18, cc40, [.c 2 35, .t 3]⟩ := ⟨Tryd.f40, (Tryd.f40.body).getD .skip, Tryd.func40, by kernel_rfl, by kernel_rfl, by kernel_rfl, by kernel_rfl, by decide +kernel⟩
theorem F41 : FnOk PX 41 ⟨38, cc41, [.t 2]⟩ := ⟨Tryd.f41, (Tryd.f41.body).getD .skip, Tryd.func41, by kernel_rfl, by kernel_rfl, by kernel_rfl, by kernel_rfl, by decide +kernel⟩
theorem F42 : FnOk PX 42 ⟨3, cc42, [.c 0 35]⟩ := ⟨Tryd.f42, (Tryd.f42.body).getD .skip, Tryd.func42, by kernel_rfl, by kernel_rfl, by kernel_rfl, by kernel_rfl, by decide +kernel⟩
theorem F43 : FnOk PX 43 ⟨5, cc43, [.c 0 35]⟩ := ⟨Tryd.f43, (Tryd.f43.body).getD .skip, Tryd.func43, by kernel_rfl, by kernel_rfl, by kernel_rfl, by kernel_rfl, by decide +kernel⟩
theorem F44 : FnOk PX 44 ⟨41, cc44, [.c 2 35]⟩ := ⟨Tryd.f44, (Tryd.f44.body).getD .skip, Tryd.func44, by kernel_rfl, by kernel_rfl, by kernel_rfl, by kernel_rfl, by decide +kernel⟩
theorem F45 : FnOk PX 45 ⟨28, cc45, [.c 2 35, .t 3]⟩ := ⟨Tryd.f45, (Tryd.f45.body).getD .skip, Tryd.func45, by kernel_rfl, by kernel_rfl, by kernel_rfl, by kernel_rfl, by decide +kernel⟩
theorem F46 : FnOk PX 46 ⟨5, cc46, [.c 2 35]⟩ := ⟨Tryd.f46, (Tryd.f46.body).getD .skip, Tryd.func46, by kernel_rfl, by kernel_rfl, by kernel_rfl, by kernel_rfl, by decide +kernel⟩
theorem F47 : FnOk PX 47 ⟨19, cc47, [.t 2, .t 3]⟩ := ⟨Tryd.f47, (Tryd.f47.body).getD .skip, Tryd.func47, by kernel_rfl, by kernel_rfl, by kernel_rfl, by kernel_rfl, by decide +kernel⟩
theorem F48 : FnOk PX 48 ⟨9, cc48, [.t 4]⟩ := ⟨Tryd.f48, (Tryd.f48.body).getD .skip, Tryd.func48, by kernel_rfl, by kernel_rfl, by kernel_rfl, by kernel_rfl, by decide +kernel⟩
theorem F49 : FnOk PX 49 ⟨8, cc49, [.t 3]⟩ := ⟨Tryd.f49, (Tryd.f49.body).getD .skip, Tryd.func49, by kernel_rfl, by kernel_rfl, by kernel_rfl, by kernel_rfl, by decide +kernel⟩
theorem F50 : FnOk PX 50 ⟨10, cc50, [.t 4]⟩ := ⟨Tryd.f50, (Tryd.f50.body).getD .skip, Tryd.func50, by kernel_rfl, by kernel_rfl, by kernel_rfl, by kernel_rfl, by decide +kernel⟩
theorem F60 : FnOk PX 60 ⟨118, cc60, [.c 8 35, .t 9, .t 10]⟩ := ⟨Tryd.f60, (Tryd.f60.body).getD .skip, Tryd.func60, by kernel_rfl, by kernel_rfl, by kernel_rfl, by kernel_rfl, by decide +kernel⟩
theorem F61 : FnOk PX 61 ⟨10, cc61, [.t 4]⟩ := ⟨Tryd.f61, (Tryd.f61.body).getD .skip, Tryd.func61, by kernel_rfl, by kernel_rfl, by kernel_rfl, by kernel_rfl, by decide +kernel⟩
theorem F72 : FnOk PX 72 ⟨175, cc72, [.c 2 54, .t 3]⟩ := ⟨Tryd.f72, (Tryd.f72.body).getD .skip, Tryd.func72, by kernel_rfl, by kernel_rfl, by kernel_rfl, by kernel_rfl, by decide +kernel⟩
theorem F73 : FnOk PX 73 ⟨5, cc73, [.c 2 35]⟩ := ⟨Tryd.f73, (Tryd.f73.body).getD .skip, Tryd.func73, by kernel_rfl, by kernel_rfl, by kernel_rfl, by kernel_rfl, by decide +kernel⟩
theorem F74 : FnOk PX 74 ⟨20, cc74, [.t 2, .t 3]⟩ := ⟨Tryd.f74, (Tryd.f74.body).getD .skip, Tryd.func74, by kernel_rfl, by kernel_rfl, by kernel_rfl, by kernel_rfl, by decide +kernel⟩
theorem F75 : FnOk PX 75 ⟨17, cc75, [.t 2]⟩ := ⟨Tryd.f75, (Tryd.f75.body).getD .skip, Tryd.func75, by kernel_rfl, by kernel_rfl, by kernel_rfl, by kernel_rfl, by decide +kernel⟩
theorem F76 : FnOk PX 76 ⟨94, cc76, [.t 2, .t 3, .t 4]⟩ := ⟨Tryd.f76, (Tryd.f76.body).getD .skip, Tryd.func76, by kernel_rfl, by kernel_rfl, by kernel_rfl, by kernel_rfl, by decide +kernel⟩
theorem F77 : FnOk PX 77 ⟨8, cc77, [.c 4 35]⟩ := ⟨Tryd.f77, (Tryd.f77.body).getD .skip, Tryd.func77, by kernel_rfl, by kernel_rfl, by kernel_rfl, by kernel_rfl, by decide +kernel⟩
theorem F78 : FnOk PX 78 ⟨15, cc78, [.c 2 35]⟩ := ⟨Tryd.f78, (Tryd.f78.body).getD .skip, Tryd.func78, by kernel_rfl, by kernel_rfl, by kernel_rfl, by kernel_rfl, by decide +kernel⟩
theorem F79 : FnOk PX 79 ⟨35, cc79, [.t 2, .t 3]⟩ := ⟨Tryd.f79, (Tryd.f79.body).getD .skip, Tryd.func79, by kernel_rfl, by kernel_rfl, by kernel_rfl, by kernel_rfl, by decide +kernel⟩
theorem F80 : FnOk PX 80 ⟨20, cc80, [.t 2, .t 3]⟩ := ⟨Tryd.f80, (Tryd.f80.body).getD .skip, Tryd.func80, by kernel_rfl, by kernel_rfl, by kernel_rfl, by kernel_rfl, by decide +kernel⟩
theorem F81 : FnOk PX 81 ⟨89, cc81, [.t 4]⟩ := ⟨Tryd.f81, (Tryd.f81.body).getD .skip, Tryd.func81, by kernel_rfl, by kernel_rfl, by kernel_rfl, by kernel_rfl, by decide +kernel⟩
theorem F82 : FnOk PX 82 ⟨86, cc82, [.t 2, .t 3, .t 4]⟩ := ⟨Tryd.f82, (Tryd.f82.body).getD .skip, Tryd.func82, by kernel_rfl, by kernel_rfl, by kernel_rfl, by kernel_rfl, by decide +kernel⟩
theorem F83 : FnOk PX 83 ⟨31, cc83, [.t 2, .t 3]⟩ := ⟨Tryd.f83, (Tryd.f83.body).getD .skip, Tryd.func83, by kernel_rfl, by kernel_rfl, by kernel_rfl, by kernel_rfl, by decide +kernel⟩
theorem F84 : FnOk PX 84 ⟨17, cc84, [.t 2]⟩ := ⟨Tryd.f84, (Tryd.f84.body).getD .skip, Tryd.func84, by kernel_rfl, by kernel_rfl, by kernel_rfl, by kernel_rfl, by decide +kernel⟩
theorem F85 : FnOk PX 85 ⟨12, cc85, [.c 2 35]⟩ := ⟨Tryd.f85, (Tryd.f85.body).getD .skip, Tryd.func85, by kernel_rfl, by kernel_rfl, by kernel_rfl, by kernel_rfl, by decide +kernel⟩
theorem F86 : FnOk PX 86 ⟨40, cc86, [.t 2, .t 3]⟩ := ⟨Tryd.f86, (Tryd.f86.body).getD .skip, Tryd.func86, by kernel_rfl, by kernel_rfl, by kernel_rfl, by kernel_rfl, by decide +kernel⟩
theorem F87 : FnOk PX 87 ⟨57, cc87, [.t 2]⟩ := ⟨Tryd.f87, (Tryd.f87.body).getD .skip, Tryd.func87, by kernel_rfl, by kernel_rfl, by kernel_rfl, by kernel_rfl, by decide +kernel⟩
theorem F88 : FnOk PX 88 ⟨25, cc88, [.t 2]⟩ := ⟨Tryd.f88, (Tryd.f88.body).getD .skip, Tryd.func88, by kernel_rfl, by kernel_rfl, by kernel_rfl, by kernel_rfl, by decide +kernel⟩
theorem F89 : FnOk PX 89 ⟨83, cc89, [.t 2]⟩ := ⟨Tryd.f89, (Tryd.f89.body).getD .skip, Tryd.func89, by kernel_rfl, by kernel_rfl, by kernel_rfl, by kernel_rfl, by decide +kernel⟩
theorem F90 : FnOk PX 90 ⟨19, cc90, [.t 4]⟩ := ⟨Tryd.f90, (Tryd.f90.body).getD .skip, Tryd.func90, by kernel_rfl, by kernel_rfl, by kernel_rfl, by kernel_rfl, by decide +kernel⟩
theorem F108 : FnOk PX 108 ⟨97, cc108, [.t 6, .t 7, .t 8]⟩ := ⟨Tryd.f108, (Tryd.f108.body).getD .skip, Tryd.func108, by kernel_rfl, by kernel_rfl, by kernel_rfl, by kernel_rfl, by decide +kernel⟩
theorem F109 : FnOk PX 109 ⟨8, cc109, [.t 2]⟩ := ⟨Tryd.f109, (Tryd.f109.body).getD .skip, Tryd.func109, by kernel_rfl, by kernel_rfl, by kernel_rfl, by kernel_rfl, by decide +kernel⟩
theorem F112 : FnOk PX 112 ⟨72, cc112, [.c 4 35, .t 5, .c 6 28, .t 7]⟩ := ⟨Tryd.f112, (Tryd.f112.body).getD .skip, Tryd.func112, by kernel_rfl, by kernel_rfl, by kernel_rfl, by kernel_rfl, by decide +kernel⟩
theorem F113 : FnOk PX 113 ⟨28, cc113, [.t 4]⟩ := ⟨Tryd.f113, (Tryd.f113.body).getD .skip, Tryd.func113, by kernel_rfl, by kernel_rfl, by kernel_rfl, by kernel_rfl, by decide +kernel⟩
theorem F118 : FnOk PX 118 ⟨9, cc118, [.t 4]⟩ := ⟨Tryd.f118, (Tryd.f118.body).getD .skip, Tryd.func118, by kernel_rfl, by kernel_rfl, by kernel_rfl, by kernel_rfl, by decide +kernel⟩
theorem F119 : FnOk PX 119 ⟨9, cc119, [.t 2]⟩ := ⟨Tryd.f119, (Tryd.f119.body).getD .skip, Tryd.func119, by kernel_rfl, by kernel_rfl, by kernel_rfl, by kernel_rfl, by decide +kernel⟩
theorem F120 : FnOk PX 120 ⟨20, cc120, [.t 2]⟩ := ⟨Tryd.f120, (Tryd.f120.body).getD .skip, Tryd.func120, by kernel_rfl, by kernel_rfl, by kernel_rfl, by kernel_rfl, by decide +kernel⟩
theorem F121 : FnOk PX 121 ⟨15, cc121, [.t 4]⟩ := ⟨Tryd.f121, (Tryd.f121.body).getD .skip, Tryd.func121, by kernel_rfl, by kernel_rfl, by kernel_rfl, by kernel_rfl, by decide +kernel⟩
theorem F122 : FnOk PX 122 ⟨12, cc122, [.t 2]⟩ := ⟨Tryd.f122, (Tryd.f122.body).getD .skip, Tryd.func122, by kernel_rfl, by kernel_rfl, by kernel_rfl, by kernel_rfl, by decide +kernel⟩
theorem F123 : FnOk PX 123 ⟨86, cc123, [.t 2, .t 3]⟩ := ⟨Tryd.f123, (Tryd.f123.body).getD .skip, Tryd.func123, by kernel_rfl, by kernel_rfl, by kernel_rfl, by kernel_rfl, by decide +kernel⟩
theorem F124 : FnOk PX 124 ⟨46, cc124, [.t 2]⟩ := ⟨Tryd.f124, (Tryd.f124.body).getD .skip, Tryd.func124, by kernel_rfl, by kernel_rfl, by kernel_rfl, by kernel_rfl, by decide +kernel⟩
theorem F125 : FnOk PX 125 ⟨13, cc125, [.t 4]⟩ := ⟨Tryd.f125, (Tryd.f125.body).getD .skip, Tryd.func125, by kernel_rfl, by kernel_rfl, by kernel_rfl, by kernel_rfl, by decide +kernel⟩
theorem F126 : FnOk PX 126 ⟨31, cc126, [.t 2]⟩ := ⟨Tryd.f126, (Tryd.f126.body).getD .skip, Tryd.func126, by kernel_rfl, by kernel_rfl, by kernel_rfl, by kernel_rfl, by decide +kernel⟩
theorem F127 : FnOk PX 127 ⟨12, cc127, [.t 2]⟩ := ⟨Tryd.f127, (Tryd.f127.body).getD .skip, Tryd.func127, by kernel_rfl, by kernel_rfl, by kernel_rfl, by kernel_rfl, by decide +kernel⟩
theorem F128 : FnOk PX 128 ⟨46, cc128, [.t 6]⟩ := ⟨Tryd.f128, (Tryd.f128.body).getD .skip, Tryd.func128, by kernel_rfl, by kernel_rfl, by kernel_rfl, by kernel_rfl, by decide +kernel⟩
theorem F129 : FnOk PX 129 ⟨12, cc129, [.t 2]⟩ := ⟨Tryd.f129, (Tryd.f129.body).getD .skip, Tryd.func129, by kernel_rfl, by kernel_rfl, by kernel_rfl, by kernel_rfl, by decide +kernel⟩
theorem F130 : FnOk PX 130 ⟨85, cc130, [.t 2, .t 3]⟩ := ⟨Tryd.f130, (Tryd.f130.body).getD .skip, Tryd.func130, by kernel_rfl, by kernel_rfl, by kernel_rfl, by kernel_rfl, by decide +kernel⟩
theorem F153 : FnOk PX 153 ⟨19, cc153, [.t 4]⟩ := ⟨Tryd.f153, (Tryd.f153.body).getD .skip, Tryd.func153, by kernel_rfl, by kernel_rfl, by kernel_rfl, by kernel_rfl, by decide +kernel⟩
theorem F154 : FnOk PX 154 ⟨16, cc154, [.t 2]⟩ := ⟨Tryd.f154, (Tryd.f154.body).getD .skip, Tryd.func154, by kernel_rfl, by kernel_rfl, by kernel_rfl, by kernel_rfl, by decide +kernel⟩
theorem F155 : FnOk PX 155 ⟨9, cc155, [.t 4]⟩ := ⟨Tryd.f155, (Tryd.f155.body).getD .skip, Tryd.func155, by kernel_rfl, by kernel_rfl, by kernel_rfl, by kernel_rfl, by decide +kernel⟩
theorem F156 : FnOk PX 156 ⟨5, cc156, [.t 2]⟩ := ⟨Tryd.f156, (Tryd.f156.body).getD .skip, Tryd.func156, by kernel_rfl, by kernel_rfl, by kernel_rfl, by kernel_rfl, by decide +kernel⟩
theorem F157 : FnOk PX 157 ⟨9, cc157, [.t 4]⟩ := ⟨Tryd.f157, (Tryd.f157.body).getD .skip, Tryd.func157, by kernel_rfl, by kernel_rfl, by kernel_rfl, by kernel_rfl, by decide +kernel⟩
theorem F158 : FnOk PX 158 ⟨6, cc158, [.t 2]⟩ := ⟨Tryd.f158, (Tryd.f158.body).getD .skip, Tryd.func158, by kernel_rfl, by kernel_rfl, by kernel_rfl, by kernel_rfl, by decide +kernel⟩
theorem F159 : FnOk PX 159 ⟨8, cc159, [.t 3]⟩ := ⟨Tryd.f159, (Tryd.f159.body).getD .skip, Tryd.func159, by kernel_rfl, by kernel_rfl, by kernel_rfl, by kernel_rfl, by decide +kernel⟩
theorem F160 : FnOk PX 160 ⟨31, cc160, [.t 4]⟩ := ⟨Tryd.f160, (Tryd.f160.body).getD .skip, Tryd.func160, by kernel_rfl, by kernel_rfl, by kernel_rfl, by kernel_rfl, by decide +kernel⟩
theorem F166 : FnOk PX 166 ⟨19, cc166, [.t 4]⟩ := ⟨Tryd.f166, (Tryd.f166.body).getD .skip, Tryd.func166, by kernel_rfl, by kernel_rfl, by kernel_rfl, by kernel_rfl, by decide +kernel⟩
theorem F167 : FnOk PX 167 ⟨19, cc167, [.t 4]⟩ := ⟨Tryd.f167, (Tryd.f167.body).getD .skip, Tryd.func167, by kernel_rfl, by kernel_rfl, by kernel_rfl, by kernel_rfl, by decide +kernel⟩
end Go.Proofs.Tryd.E
end

section
namespace Go.Proofs.Tryd.E
open Go Go.Eng
set_option maxRecDepth 100000
set_option linter.unusedVariables false
def f120 (k : Nat) (p0 : Int) : Option (Int) :=
  some (IntKind.wrap .i64 ((IntKind.wrap .i64 ((IntKind.wrap .i64 ((IntKind.wrap .i64 ((IntKind.wrap .i64 ((IntKind.wrap .i64 ((IntKind.wrap .i64 ((IntKind.wrap .i64 ((IntKind.wrap .i64 (p0 - 1)) - 1969)) * 365)) + (IntKind.wrap .i64 (Int.tdiv (IntKind.wrap .i64 (p0 - 1)) 4)))) - 492)) - (IntKind.wrap .i64 (Int.tdiv (IntKind.wrap .i64 (p0 - 1)) 100)))) + 19)) + (IntKind.wrap .i64 (Int.tdiv (IntKind.wrap .i64 (p0 - 1)) 400)))) - 4))

theorem f120_ok (k : Nat) : ∀ (p0 : Int) (r : Int), f120 k p0 = some r → Ct.Ok PX 120 ⟨[(.im (eI .i64 p0))], [], 0, (.im (eI .i64 r)), [], 0⟩ := by
  intro p0 r h
  unfold f120 at h
  replace h := Option.some.inj h; subst h
  exact Ct.ofWalk hT hm F120 (by kernel_rfl) (n := 1000) (ds := [.r [], .r [], .r [], .k ⟨[], [], [], [], [], 0, [], []⟩])
    (r := (.fin (.im (eI .i64 (IntKind.wrap .i64 ((IntKind.wrap .i64 ((IntKind.wrap .i64 ((IntKind.wrap .i64 ((IntKind.wrap .i64 ((IntKind.wrap .i64 ((IntKind.wrap .i64 ((IntKind.wrap .i64 ((IntKind.wrap .i64 (p0 - 1)) - 1969)) * 365)) + (IntKind.wrap .i64 (Int.tdiv (IntKind.wrap .i64 (p0 - 1)) 4)))) - 492)) - (IntKind.wrap .i64 (Int.tdiv (IntKind.wrap .i64 (p0 - 1)) 100)))) + 19)) + (IntKind.wrap .i64 (Int.tdiv (IntKind.wrap .i64 (p0 - 1)) 400)))) - 4)))) [] 0)) (obs := [])
    (by kernel_rfl) trivial (fun fn hfn => ⟨rfl, rfl, rfl⟩)

def f154 (k : Nat) (p0 : Int) : Option (Bool) :=
  if (Int.tmod p0 4) = 0 then (
   if (Int.tmod p0 100) = 0 then (
    some ((Int.tmod p0 400) == 0))
   else (
    some true))
  else (
   some false)

theorem f154_ok (k : Nat) : ∀ (p0 : Int) (r : Bool), f154 k p0 = some r → Ct.Ok PX 154 ⟨[(.im (eI .i64 p0))], [], 0, (.im (eB r)), [], 0⟩ := by
  intro p0 r h
  unfold f154 at h
  by_cases h1 : (Int.tmod p0 4) = 0
  · rw [if_pos h1] at h
    by_cases h2 : (Int.tmod p0 100) = 0
    · rw [if_pos h2] at h
      replace h := Option.some.inj h; subst h
      exact Ct.ofWalk hT hm F154 (by kernel_rfl) (n := 1000) (ds := [.r [], .r [(4, ⟨(.h (.gt .no)), [], []⟩), (5, ⟨(.h (.gt .no)), [], []⟩), (6, ⟨(.h (.gt .no)), [], []⟩), (7, ⟨(.h (.gt .no)), [], []⟩), (8, ⟨(.h (.gt .no)), [], []⟩), (9, ⟨(.h (.gt .no)), [], []⟩), (10, ⟨(.h (.gt .no)), [], []⟩), (11, ⟨(.h (.gt .gf)), [], []⟩), (12, ⟨(.h (.gt .no)), [], []⟩)], .k ⟨[], [], [], [], [], 0, [], []⟩])
        (r := (.fin (.im (eB ((Int.tmod p0 400) == 0))) [] 0)) (obs := [((Int.tmod p0 4) == 0) = true, ((Int.tmod p0 4) == 0) = true, (100 : Int) ≠ 0, ((Int.tmod p0 4) == 0) = true, ((Int.tmod p0 4) == 0) = true, ((Int.tmod p0 100) != 0) = false, ((Int.tmod p0 100) != 0) = false, (400 : Int) ≠ 0, ((Int.tmod p0 100) != 0) = false, ((Int.tmod p0 4) == 0) = true, ((Int.tmod p0 100) != 0) = false, ((Int.tmod p0 4) == 0) = true])
        (by kernel_rfl) ⟨(bt h1), (bt h1), (by decide), (bt h1), (bt h1), (nf h2), (nf h2), (by decide), (nf h2), (bt h1), (nf h2), (bt h1), trivial⟩ (fun fn hfn => ⟨rfl, rfl, rfl⟩)
    · rw [if_neg h2] at h
      replace h := Option.some.inj h; subst h
      exact Ct.ofWalk hT hm F154 (by kernel_rfl) (n := 1000) (ds := [.r [], .r [(4, ⟨(.h (.gt .no)), [], []⟩), (5, ⟨(.h (.gt .no)), [], []⟩), (6, ⟨(.h (.gt .no)), [], []⟩), (7, ⟨(.h (.gt .no)), [], []⟩), (8, ⟨(.h .gf), [], []⟩), (9, ⟨(.h .gf), [], []⟩), (10, ⟨(.h .gf), [], []⟩), (11, ⟨(.h (.gt (.gt .no))), [], []⟩), (12, ⟨(.h (.gt .no)), [], []⟩)], .k ⟨[], [], [], [], [], 0, [], []⟩])
        (r := (.fin (.im (eB true)) [] 0)) (obs := [((Int.tmod p0 4) == 0) = true, ((Int.tmod p0 4) == 0) = true, (100 : Int) ≠ 0, ((Int.tmod p0 4) == 0) = true, ((Int.tmod p0 4) == 0) = true, ((Int.tmod p0 100) != 0) = !false, ((Int.tmod p0 100) != 0) = !false, ((Int.tmod p0 100) != 0) = !false, ((Int.tmod p0 4) == 0) = true, ((Int.tmod p0 100) != 0) = true, ((Int.tmod p0 4) == 0) = true])
        (by kernel_rfl) ⟨(bt h1), (bt h1), (by decide), (bt h1), (bt h1), (nt h2), (nt h2), (nt h2), (bt h1), (nt h2), (bt h1), trivial⟩ (fun fn hfn => ⟨rfl, rfl, rfl⟩)
  · rw [if_neg h1] at h
    replace h := Option.some.inj h; subst h
    exact Ct.ofWalk hT hm F154 (by kernel_rfl) (n := 1000) (ds := [.r [], .r [(4, ⟨(.h .gf), [], []⟩), (5, ⟨(.h .gf), [], []⟩), (6, ⟨(.h .gf), [], []⟩), (7, ⟨(.h .gf), [], []⟩), (11, ⟨(.h .gf), [], []⟩), (12, ⟨(.h .gf), [], []⟩)], .k ⟨[], [], [], [], [], 0, [], []⟩])
      (r := (.fin (.im (eB false)) [] 0)) (obs := [((Int.tmod p0 4) == 0) = !true, ((Int.tmod p0 4) == 0) = !true, ((Int.tmod p0 4) == 0) = !true, ((Int.tmod p0 4) == 0) = !true, ((Int.tmod p0 4) == 0) = !true, ((Int.tmod p0 4) == 0) = false])
      (by kernel_rfl) ⟨(bf h1), (bf h1), (bf h1), (bf h1), (bf h1), (bf h1), trivial⟩ (fun fn hfn => ⟨rfl, rfl, rfl⟩)

def f121 (k : Nat) (p0 : Int) (p1 : Int) : Option (Int) :=
  if p1 = 2 then (
   (f154 k p0).bind fun v1 =>
   if v1 = true then (
    some 29)
   else (
    some 28))
  else (
   if p1 = 4 then (
    some 30)
   else (
    if p1 = 6 then (
     some 30)
    else (
     if p1 = 9 then (
      some 30)
     else (
      if p1 = 11 then (
       some 30)
      else (
       some 31)))))

theorem f121_ok (k : Nat) : ∀ (p0 : Int) (p1 : Int) (r : Int), f121 k p0 p1 = some r → Ct.Ok PX 121 ⟨[(.im (eI .i64 p0)), (.im (eI .i64 p1))], [], 0, (.im (eI .i64 r)), [], 0⟩ := by
  intro p0 p1 r h
  unfold f121 at h
  by_cases h1 : p1 = 2
  · rw [if_pos h1] at h
    obtain ⟨v1, h2, h⟩ := bnd h
    by_cases h3 : v1 = true
    · rw [if_pos h3] at h
      replace h := Option.some.inj h; subst h
      exact Ct.ofWalk hT hm F121 (by kernel_rfl) (n := 1000) (ds := [.r [], .r [], .r [], .b true, .r [(1, ⟨(.c false [] ⟨[], [], [], 0, (.im (eB v1)), [], 0, [], 0⟩), [], []⟩)], .b true, .r [], .k ⟨[], [], [], [], [], 0, [], []⟩])
        (r := (.fin (.im (eI .i64 29)) [] 0)) (obs := [(p1 == 2) = true, Ct.Ok PX 154 ⟨[(.im (eI .i64 p0))], [], 0, (.im (eB v1)), [], 0⟩, v1 = true])
        (by kernel_rfl) ⟨(bt h1), (f154_ok k p0 v1 h2), h3, trivial⟩ (fun fn hfn => ⟨rfl, rfl, rfl⟩)
    · rw [if_neg h3] at h
      replace h := Option.some.inj h; subst h
      exact Ct.ofWalk hT hm F121 (by kernel_rfl) (n := 1000) (ds := [.r [], .r [], .r [], .b true, .r [(1, ⟨(.c false [] ⟨[], [], [], 0, (.im (eB v1)), [], 0, [], 0⟩), [], []⟩)], .b false, .r [], .k ⟨[], [], [], [], [], 0, [], []⟩])
        (r := (.fin (.im (eI .i64 28)) [] 0)) (obs := [(p1 == 2) = true, Ct.Ok PX 154 ⟨[(.im (eI .i64 p0))], [], 0, (.im (eB v1)), [], 0⟩, v1 = false])
        (by kernel_rfl) ⟨(bt h1), (f154_ok k p0 v1 h2), (vf h3), trivial⟩ (fun fn hfn => ⟨rfl, rfl, rfl⟩)
  · rw [if_neg h1] at h
    by_cases h2 : p1 = 4
    · rw [if_pos h2] at h
      replace h := Option.some.inj h; subst h
      exact Ct.ofWalk hT hm F121 (by kernel_rfl) (n := 1000) (ds := [.r [], .r [], .r [], .b false, .r [], .b true, .b true, .r [], .k ⟨[], [], [], [], [], 0, [], []⟩])
        (r := (.fin (.im (eI .i64 30)) [] 0)) (obs := [(p1 == 2) = false, (p1 == 4) = true, (p1 == 4) = true])
        (by kernel_rfl) ⟨(bf h1), (bt h2), (bt h2), trivial⟩ (fun fn hfn => ⟨rfl, rfl, rfl⟩)
    · rw [if_neg h2] at h
      by_cases h3 : p1 = 6
      · rw [if_pos h3] at h
        replace h := Option.some.inj h; subst h
        exact Ct.ofWalk hT hm F121 (by kernel_rfl) (n := 1000) (ds := [.r [], .r [], .r [], .b false, .r [], .b false, .r [], .b true, .b true, .r [], .k ⟨[], [], [], [], [], 0, [], []⟩])
          (r := (.fin (.im (eI .i64 30)) [] 0)) (obs := [(p1 == 2) = false, (p1 == 4) = false, (p1 == 6) = true, (p1 == 6) = true])
          (by kernel_rfl) ⟨(bf h1), (bf h2), (bt h3), (bt h3), trivial⟩ (fun fn hfn => ⟨rfl, rfl, rfl⟩)
      · rw [if_neg h3] at h
        by_cases h4 : p1 = 9
        · rw [if_pos h4] at h
          replace h := Option.some.inj h; subst h
          exact Ct.ofWalk hT hm F121 (by kernel_rfl) (n := 1000) (ds := [.r [], .r [], .r [], .b false, .r [], .b false, .r [], .b false, .r [], .b true, .b true, .r [], .k ⟨[], [], [], [], [], 0, [], []⟩])
            (r := (.fin (.im (eI .i64 30)) [] 0)) (obs := [(p1 == 2) = false, (p1 == 4) = false, (p1 == 6) = false, (p1 == 9) = true, (p1 == 9) = true])
            (by kernel_rfl) ⟨(bf h1), (bf h2), (bf h3), (bt h4), (bt h4), trivial⟩ (fun fn hfn => ⟨rfl, rfl, rfl⟩)
        · rw [if_neg h4] at h
          by_cases h5 : p1 = 11
          · rw [if_pos h5] at h
            replace h := Option.some.inj h; subst h
            exact Ct.ofWalk hT hm F121 (by kernel_rfl) (n := 1000) (ds := [.r [], .r [], .r [], .b false, .r [], .b false, .r [], .b false, .r [], .b false, .r [], .b true, .r [], .k ⟨[], [], [], [], [], 0, [], []⟩])
              (r := (.fin (.im (eI .i64 30)) [] 0)) (obs := [(p1 == 2) = false, (p1 == 4) = false, (p1 == 6) = false, (p1 == 9) = false, (p1 == 11) = true])
              (by kernel_rfl) ⟨(bf h1), (bf h2), (bf h3), (bf h4), (bt h5), trivial⟩ (fun fn hfn => ⟨rfl, rfl, rfl⟩)
          · rw [if_neg h5] at h
            replace h := Option.some.inj h; subst h
            exact Ct.ofWalk hT hm F121 (by kernel_rfl) (n := 1000) (ds := [.r [], .r [], .r [], .b false, .r [], .b false, .r [], .b false, .r [], .b false, .r [], .b false, .r [], .k ⟨[], [], [], [], [], 0, [], []⟩])
              (r := (.fin (.im (eI .i64 31)) [] 0)) (obs := [(p1 == 2) = false, (p1 == 4) = false, (p1 == 6) = false, (p1 == 9) = false, (p1 == 11) = false])
              (by kernel_rfl) ⟨(bf h1), (bf h2), (bf h3), (bf h4), (bf h5), trivial⟩ (fun fn hfn => ⟨rfl, rfl, rfl⟩)

def f122 (k : Nat) (p0 : Int) : Option ((List Int)) :=
  some [(IntKind.wrap .u8 (IntKind.wrap .i64 (48 + (IntKind.wrap .i64 (Int.tdiv p0 10))))), (IntKind.wrap .u8 (IntKind.wrap .i64 (48 + (Int.tmod p0 10))))]

theorem f122_ok (k : Nat) : ∀ (p0 : Int) (r : (List Int)), f122 k p0 = some r → Ct.Ok PX 122 ⟨[(.im (eI .i64 p0))], [], 0, (.ownF 1 0), [(0, (.row 5 1 (r.map (eI .u8)) 0))], 1⟩ := by
  intro p0 r h
  unfold f122 at h
  replace h := Option.some.inj h; subst h
  exact Ct.ofWalk hT hm F122 (by kernel_rfl) (n := 1000) (ds := [.r [], .r [], .k ⟨[], [], [], [], [(0, 0)], 1, [], []⟩])
    (r := (.fin (.ownF 1 0) [(0, (.row 5 1 [(eI .u8 (IntKind.wrap .u8 (IntKind.wrap .i64 (48 + (IntKind.wrap .i64 (Int.tdiv p0 10)))))), (eI .u8 (IntKind.wrap .u8 (IntKind.wrap .i64 (48 + (Int.tmod p0 10)))))] 0))] 1)) (obs := [])
    (by kernel_rfl) trivial (fun fn hfn => ⟨rfl, rfl, rfl⟩)

def f76L2_S (p0 : Int) (x0 : Int) (x1 : (List Int)) (x2 : (List Int)) (x4 : Int) : S := ⟨[(9, (.im (eI .i64 x0))), (10, (.ownF 1 0)), (79, (.ownF 1 1)), (80, (.im (eI .i64 6))), (81, (.im (eI .i64 x4)))], [(0, (.row 5 1 (x1.map (eI .u8)) 0)), (1, (.row 3 1 (x2.map (eI .i64)) 0))], 2⟩

def f76L2 : Nat → Int → Int → (List Int) → (List Int) → Int → Option (Int × (List Int) × Er)
  | 0, _, _, _, _, _ => none
  | k + 1, p0, x0, x1, x2, x4 =>
    if x4 < 6 then (
     (rd x2 x4).bind fun v1 =>
     (f122 k v1).bind fun v2 =>
     (ap 1 x1 v2).bind fun v3 =>
     f76L2 k p0 x0 v3 x2 (IntKind.wrap .i64 (x4 + 1)))
    else (
     (ap 1 x1 [90]).bind fun v1 =>
     some (x0, v1, Er.nil))

def f76L2_P (k : Nat) : Prop := ∀ (fn : Func) (_ : fn.results = ([.t 2, .t 3, .t 4].map Rv.var).toArray), ∀ (p0 : Int) (x0 : Int) (x1 : (List Int)) (x2 : (List Int)) (x4 : Int) (r : Int × (List Int) × Er), f76L2 k p0 x0 x1 x2 x4 = some r → LH PX ⟨fn, 94, 0, (.tup [(.im (eI .i64 r.1)), (.im (.sl 1 (r.2.1.map (eI .u8)))), (.im (eEr r.2.2))]), [], 0⟩ cc76_4 [.blk 4, .seq cc76_5] (f76L2_S p0 x0 x1 x2 x4)

theorem f76L2_step (k : Nat) (ih_f76L2 : f76L2_P k) : f76L2_P (k + 1) := by
  intro fn hfn p0 x0 x1 x2 x4 r h
  rw [f76L2] at h
  by_cases h1 : x4 < 6
  · rw [if_pos h1] at h
    obtain ⟨v1, h2, h⟩ := bnd h
    obtain ⟨v2, h3, h⟩ := bnd h
    obtain ⟨v3, h4, h⟩ := bnd h
    exact LH.round hT hm hfn (n := 1000) (ds := [.r [], .b true, .r [(0, ⟨(.h .no), [], []⟩), (1, ⟨(.h (.iv (eI .i64 v1))), [], []⟩)], .r [(2, ⟨(.c false [] ⟨[], [], [], 0, (.ownF 1 0), [(0, (.row 5 1 (v2.map (eI .u8)) 0))], 1, [(2, 0)], 3⟩), [], []⟩), (3, ⟨(.h (.ivs (v3.map (eI .u8)))), [], []⟩)], .r [], .k ⟨[], [], [], [9, 10, 79, 80, 81], [(0, 3), (1, 1)], 2, [], []⟩])
      (r := (.head cc76_4 [.blk 4, .seq cc76_5] (f76L2_S p0 x0 v3 x2 (IntKind.wrap .i64 (x4 + 1))))) (obs := [(decide (x4 < 6)) = true, 0 ≤ x4, (x4).toNat < (x2.map (eI .i64)).length, (x2.map (eI .i64))[(x4).toNat]? = some (eI .i64 v1), Ct.Ok PX 122 ⟨[(.im (eI .i64 v1))], [], 0, (.ownF 1 0), [(0, (.row 5 1 (v2.map (eI .u8)) 0))], 1⟩, (x1.map (eI .u8)) ++ (v2.map (eI .u8)) = (v3.map (eI .u8)), (v3.map (eI .u8)).length * 1 ≤ 140737488355328, (v3.map (eI .u8)).length ≤ 9223372036854775807])
      (by kernel_rfl) ⟨(dt h1), (rd_nn h2), (rd_ltm (eI .i64) h2), (rd_map (eI .i64) h2), (f122_ok k v1 v2 h3), (ap_map (eI .u8) h4), (ap_b (eI .u8) h4), (ap_n (eI .u8) h4), trivial⟩ (ih_f76L2 fn hfn p0 x0 v3 x2 (IntKind.wrap .i64 (x4 + 1)) _ h)
  · rw [if_neg h1] at h
    obtain ⟨v1, h2, h⟩ := bnd h
    replace h := Option.some.inj h; subst h
    exact LH.round hT hm hfn (n := 1000) (ds := [.r [], .b false, .r [(3, ⟨(.h (.ivs (v1.map (eI .u8)))), [], []⟩)], .k ⟨[], [], [3], [], [], 0, [], []⟩])
      (r := (.fin (.tup [(.im (eI .i64 x0)), (.im (.sl 1 (v1.map (eI .u8)))), (.im (.v .nilIface))]) [] 0)) (obs := [(decide (x4 < 6)) = false, (x1.map (eI .u8)) ++ [(eI .u8 90)] = (v1.map (eI .u8)), (v1.map (eI .u8)).length * 1 ≤ 140737488355328, (v1.map (eI .u8)).length ≤ 9223372036854775807])
      (by kernel_rfl) ⟨(df h1), (ap_map (eI .u8) h2), (ap_b (eI .u8) h2), (ap_n (eI .u8) h2), trivial⟩ ⟨rfl, rfl, rfl⟩

theorem f76L2_all : ∀ k, f76L2_P k
  | 0 => (by intro fn hfn _ _ _ _ _ r h; rw [f76L2] at h; cases h)
  | k + 1 => f76L2_step k (f76L2_all k)

theorem f76L2_ok (fn : Func) (hfn : fn.results = ([.t 2, .t 3, .t 4].map Rv.var).toArray) (k : Nat) : ∀ (p0 : Int) (x0 : Int) (x1 : (List Int)) (x2 : (List Int)) (x4 : Int) (r : Int × (List Int) × Er), f76L2 k p0 x0 x1 x2 x4 = some r → LH PX ⟨fn, 94, 0, (.tup [(.im (eI .i64 r.1)), (.im (.sl 1 (r.2.1.map (eI .u8)))), (.im (eEr r.2.2))]), [], 0⟩ cc76_4 [.blk 4, .seq cc76_5] (f76L2_S p0 x0 x1 x2 x4) := (f76L2_all k) fn hfn
end Go.Proofs.Tryd.E
end

section
namespace Go.Proofs.Tryd.E
open Go Go.Eng
set_option maxRecDepth 100000
set_option linter.unusedVariables false
def f76L1_S (p0 : Int) (x0 : Int) (x1 : Int) (x2 : Int) (x3 : Int) : S := ⟨[(5, (.im (eI .i64 x0))), (6, (.im (eI .i64 x1))), (7, (.im (eI .i64 x2))), (8, (.im (eI .i64 x3)))], [], 0⟩

def f76L1 : Nat → Int → Int → Int → Int → Int → Option (Int × (List Int) × Er)
  | 0, _, _, _, _, _ => none
  | k + 1, p0, x0, x1, x2, x3 =>
    (f121 k x2 x3).bind fun v1 =>
    if x0 ≥ v1 then (
     f76L1 k p0 (IntKind.wrap .i64 (x0 - v1)) x1 x2 (IntKind.wrap .i64 (x3 + 1)))
    else (
     if x2 ≥ 2050 then (
      (f122 k (IntKind.wrap .i64 (Int.tdiv x2 100))).bind fun v2 =>
      f76L2 k p0 24 v2 [(Int.tmod x2 100), x3, (IntKind.wrap .i64 (x0 + 1)), (IntKind.wrap .i64 (Int.tdiv x1 3600)), (Int.tmod (IntKind.wrap .i64 (Int.tdiv x1 60)) 60), (Int.tmod x1 60)] 0)
     else (
      f76L2 k p0 23 [] [(Int.tmod x2 100), x3, (IntKind.wrap .i64 (x0 + 1)), (IntKind.wrap .i64 (Int.tdiv x1 3600)), (Int.tmod (IntKind.wrap .i64 (Int.tdiv x1 60)) 60), (Int.tmod x1 60)] 0))

def f76L1_P (k : Nat) : Prop := ∀ (fn : Func) (_ : fn.results = ([.t 2, .t 3, .t 4].map Rv.var).toArray), ∀ (p0 : Int) (x0 : Int) (x1 : Int) (x2 : Int) (x3 : Int) (r : Int × (List Int) × Er), f76L1 k p0 x0 x1 x2 x3 = some r → LH PX ⟨fn, 94, 0, (.tup [(.im (eI .i64 r.1)), (.im (.sl 1 (r.2.1.map (eI .u8)))), (.im (eEr r.2.2))]), [], 0⟩ cc76_2 [.blk 2, .seq cc76_3] (f76L1_S p0 x0 x1 x2 x3)

theorem f76L1_step (k : Nat) (ih_f76L1 : f76L1_P k) : f76L1_P (k + 1) := by
  intro fn hfn p0 x0 x1 x2 x3 r h
  rw [f76L1] at h
  obtain ⟨v1, h1, h⟩ := bnd h
  by_cases h2 : x0 ≥ v1
  · rw [if_pos h2] at h
    exact LH.round hT hm hfn (n := 1000) (ds := [.r [(3, ⟨(.c false [] ⟨[], [], [], 0, (.im (eI .i64 v1)), [], 0, [], 0⟩), [], []⟩)], .b true, .r [(3, ⟨(.c false [] ⟨[], [], [], 0, (.im (eI .i64 v1)), [], 0, [], 0⟩), [], []⟩)], .r [], .k ⟨[], [], [], [5, 6, 7, 8], [], 0, [], []⟩])
      (r := (.head cc76_2 [.blk 2, .seq cc76_3] (f76L1_S p0 (IntKind.wrap .i64 (x0 - v1)) x1 x2 (IntKind.wrap .i64 (x3 + 1))))) (obs := [Ct.Ok PX 121 ⟨[(.im (eI .i64 x2)), (.im (eI .i64 x3))], [], 0, (.im (eI .i64 v1)), [], 0⟩, (decide (x0 ≥ v1)) = true, Ct.Ok PX 121 ⟨[(.im (eI .i64 x2)), (.im (eI .i64 x3))], [], 0, (.im (eI .i64 v1)), [], 0⟩])
      (by kernel_rfl) ⟨(f121_ok k x2 x3 v1 h1), (dt h2), (f121_ok k x2 x3 v1 h1), trivial⟩ (ih_f76L1 fn hfn p0 (IntKind.wrap .i64 (x0 - v1)) x1 x2 (IntKind.wrap .i64 (x3 + 1)) _ h)
  · rw [if_neg h2] at h
    by_cases h3 : x2 ≥ 2050
    · rw [if_pos h3] at h
      obtain ⟨v2, h4, h⟩ := bnd h
      exact LH.round hT hm hfn (n := 1000) (ds := [.r [(3, ⟨(.c false [] ⟨[], [], [], 0, (.im (eI .i64 v1)), [], 0, [], 0⟩), [], []⟩)], .b false, .r [], .r [], .b true, .r [(2, ⟨(.c false [] ⟨[], [], [], 0, (.ownF 1 0), [(0, (.row 5 1 (v2.map (eI .u8)) 0))], 1, [(1, 0)], 2⟩), [], []⟩)], .r [], .k ⟨[], [], [], [9, 10, 79, 80, 81], [(0, 1), (1, 2)], 2, [], []⟩])
        (r := (.head cc76_4 [.blk 4, .seq cc76_5] (f76L2_S p0 24 v2 [(Int.tmod x2 100), x3, (IntKind.wrap .i64 (x0 + 1)), (IntKind.wrap .i64 (Int.tdiv x1 3600)), (Int.tmod (IntKind.wrap .i64 (Int.tdiv x1 60)) 60), (Int.tmod x1 60)] 0))) (obs := [Ct.Ok PX 121 ⟨[(.im (eI .i64 x2)), (.im (eI .i64 x3))], [], 0, (.im (eI .i64 v1)), [], 0⟩, (decide (x0 ≥ v1)) = false, (decide (x2 ≥ 2050)) = true, Ct.Ok PX 122 ⟨[(.im (eI .i64 (IntKind.wrap .i64 (Int.tdiv x2 100))))], [], 0, (.ownF 1 0), [(0, (.row 5 1 (v2.map (eI .u8)) 0))], 1⟩])
        (by kernel_rfl) ⟨(f121_ok k x2 x3 v1 h1), (df h2), (dt h3), (f122_ok k (IntKind.wrap .i64 (Int.tdiv x2 100)) v2 h4), trivial⟩ (f76L2_ok fn hfn k p0 24 v2 [(Int.tmod x2 100), x3, (IntKind.wrap .i64 (x0 + 1)), (IntKind.wrap .i64 (Int.tdiv x1 3600)), (Int.tmod (IntKind.wrap .i64 (Int.tdiv x1 60)) 60), (Int.tmod x1 60)] 0 _ h)
    · rw [if_neg h3] at h
      exact LH.round hT hm hfn (n := 1000) (ds := [.r [(3, ⟨(.c false [] ⟨[], [], [], 0, (.im (eI .i64 v1)), [], 0, [], 0⟩), [], []⟩)], .b false, .r [], .r [], .b false, .r [], .k ⟨[], [], [], [9, 10, 79, 80, 81], [(0, 0), (1, 1)], 2, [], []⟩])
        (r := (.head cc76_4 [.blk 4, .seq cc76_5] (f76L2_S p0 23 [] [(Int.tmod x2 100), x3, (IntKind.wrap .i64 (x0 + 1)), (IntKind.wrap .i64 (Int.tdiv x1 3600)), (Int.tmod (IntKind.wrap .i64 (Int.tdiv x1 60)) 60), (Int.tmod x1 60)] 0))) (obs := [Ct.Ok PX 121 ⟨[(.im (eI .i64 x2)), (.im (eI .i64 x3))], [], 0, (.im (eI .i64 v1)), [], 0⟩, (decide (x0 ≥ v1)) = false, (decide (x2 ≥ 2050)) = false])
        (by kernel_rfl) ⟨(f121_ok k x2 x3 v1 h1), (df h2), (df h3), trivial⟩ (f76L2_ok fn hfn k p0 23 [] [(Int.tmod x2 100), x3, (IntKind.wrap .i64 (x0 + 1)), (IntKind.wrap .i64 (Int.tdiv x1 3600)), (Int.tmod (IntKind.wrap .i64 (Int.tdiv x1 60)) 60), (Int.tmod x1 60)] 0 _ h)

theorem f76L1_all : ∀ k, f76L1_P k
  | 0 => (by intro fn hfn _ _ _ _ _ r h; rw [f76L1] at h; cases h)
  | k + 1 => f76L1_step k (f76L1_all k)

theorem f76L1_ok (fn : Func) (hfn : fn.results = ([.t 2, .t 3, .t 4].map Rv.var).toArray) (k : Nat) : ∀ (p0 : Int) (x0 : Int) (x1 : Int) (x2 : Int) (x3 : Int) (r : Int × (List Int) × Er), f76L1 k p0 x0 x1 x2 x3 = some r → LH PX ⟨fn, 94, 0, (.tup [(.im (eI .i64 r.1)), (.im (.sl 1 (r.2.1.map (eI .u8)))), (.im (eEr r.2.2))]), [], 0⟩ cc76_2 [.blk 2, .seq cc76_3] (f76L1_S p0 x0 x1 x2 x3) := (f76L1_all k) fn hfn

def f76L0_S (p0 : Int) (x0 : Int) (x1 : Int) (x2 : Int) : S := ⟨[(5, (.im (eI .i64 x0))), (6, (.im (eI .i64 x1))), (7, (.im (eI .i64 x2)))], [], 0⟩

def f76L0 : Nat → Int → Int → Int → Int → Option (Int × (List Int) × Er)
  | 0, _, _, _, _ => none
  | k + 1, p0, x0, x1, x2 =>
    (f120 k (IntKind.wrap .i64 (x2 + 1))).bind fun v1 =>
    if v1 ≤ x0 then (
     f76L0 k p0 x0 x1 (IntKind.wrap .i64 (x2 + 1)))
    else (
     (f120 k x2).bind fun v2 =>
     f76L1 k p0 (IntKind.wrap .i64 (x0 - v2)) x1 x2 1)

def f76L0_P (k : Nat) : Prop := ∀ (fn : Func) (_ : fn.results = ([.t 2, .t 3, .t 4].map Rv.var).toArray), ∀ (p0 : Int) (x0 : Int) (x1 : Int) (x2 : Int) (r : Int × (List Int) × Er), f76L0 k p0 x0 x1 x2 = some r → LH PX ⟨fn, 94, 0, (.tup [(.im (eI .i64 r.1)), (.im (.sl 1 (r.2.1.map (eI .u8)))), (.im (eEr r.2.2))]), [], 0⟩ cc76_0 [.blk 0, .seq cc76_1] (f76L0_S p0 x0 x1 x2)

theorem f76L0_step (k : Nat) (ih_f76L0 : f76L0_P k) : f76L0_P (k + 1) := by
  intro fn hfn p0 x0 x1 x2 r h
  rw [f76L0] at h
  obtain ⟨v1, h1, h⟩ := bnd h
  by_cases h2 : v1 ≤ x0
  · rw [if_pos h2] at h
    exact LH.round hT hm hfn (n := 1000) (ds := [.r [(2, ⟨(.c false [] ⟨[], [], [], 0, (.im (eI .i64 v1)), [], 0, [], 0⟩), [], []⟩)], .b true, .r [], .k ⟨[], [], [], [5, 6, 7], [], 0, [], []⟩])
      (r := (.head cc76_0 [.blk 0, .seq cc76_1] (f76L0_S p0 x0 x1 (IntKind.wrap .i64 (x2 + 1))))) (obs := [Ct.Ok PX 120 ⟨[(.im (eI .i64 (IntKind.wrap .i64 (x2 + 1))))], [], 0, (.im (eI .i64 v1)), [], 0⟩, (decide (v1 ≤ x0)) = true])
      (by kernel_rfl) ⟨(f120_ok k (IntKind.wrap .i64 (x2 + 1)) v1 h1), (dt h2), trivial⟩ (ih_f76L0 fn hfn p0 x0 x1 (IntKind.wrap .i64 (x2 + 1)) _ h)
  · rw [if_neg h2] at h
    obtain ⟨v2, h3, h⟩ := bnd h
    exact LH.round hT hm hfn (n := 1000) (ds := [.r [(2, ⟨(.c false [] ⟨[], [], [], 0, (.im (eI .i64 v1)), [], 0, [], 0⟩), [], []⟩)], .b false, .r [(2, ⟨(.c false [] ⟨[], [], [], 0, (.im (eI .i64 v2)), [], 0, [], 0⟩), [], []⟩)], .r [], .k ⟨[], [], [], [5, 6, 7, 8], [], 0, [], []⟩])
      (r := (.head cc76_2 [.blk 2, .seq cc76_3] (f76L1_S p0 (IntKind.wrap .i64 (x0 - v2)) x1 x2 1))) (obs := [Ct.Ok PX 120 ⟨[(.im (eI .i64 (IntKind.wrap .i64 (x2 + 1))))], [], 0, (.im (eI .i64 v1)), [], 0⟩, (decide (v1 ≤ x0)) = false, Ct.Ok PX 120 ⟨[(.im (eI .i64 x2))], [], 0, (.im (eI .i64 v2)), [], 0⟩])
      (by kernel_rfl) ⟨(f120_ok k (IntKind.wrap .i64 (x2 + 1)) v1 h1), (df h2), (f120_ok k x2 v2 h3), trivial⟩ (f76L1_ok fn hfn k p0 (IntKind.wrap .i64 (x0 - v2)) x1 x2 1 _ h)

theorem f76L0_all : ∀ k, f76L0_P k
  | 0 => (by intro fn hfn _ _ _ _ r h; rw [f76L0] at h; cases h)
  | k + 1 => f76L0_step k (f76L0_all k)

theorem f76L0_ok (fn : Func) (hfn : fn.results = ([.t 2, .t 3, .t 4].map Rv.var).toArray) (k : Nat) : ∀ (p0 : Int) (x0 : Int) (x1 : Int) (x2 : Int) (r : Int × (List Int) × Er), f76L0 k p0 x0 x1 x2 = some r → LH PX ⟨fn, 94, 0, (.tup [(.im (eI .i64 r.1)), (.im (.sl 1 (r.2.1.map (eI .u8)))), (.im (eEr r.2.2))]), [], 0⟩ cc76_0 [.blk 0, .seq cc76_1] (f76L0_S p0 x0 x1 x2) := (f76L0_all k) fn hfn
end Go.Proofs.Tryd.E
end

section
namespace Go.Proofs.Tryd.E
open Go Go.Eng
set_option maxRecDepth 100000
set_option linter.unusedVariables false
def f76 (k : Nat) (p0 : Int) : Option (Int × (List Int) × Er) :=
  (f120 k 1950).bind fun v1 =>
  if p0 < (IntKind.wrap .i64 (v1 * 86400)) then (
   some (0, [], (Er.code 3)))
  else (
   (f120 k 10000).bind fun v2 =>
   if p0 ≥ (IntKind.wrap .i64 (v2 * 86400)) then (
    some (0, [], (Er.code 3)))
   else (
    if (Int.tmod p0 86400) < 0 then (
     f76L0 k p0 (IntKind.wrap .i64 ((IntKind.wrap .i64 (Int.tdiv p0 86400)) - 1)) (IntKind.wrap .i64 ((Int.tmod p0 86400) + 86400)) (IntKind.wrap .i64 ((IntKind.wrap .i64 (1970 + (IntKind.wrap .i64 (Int.tdiv (IntKind.wrap .i64 ((IntKind.wrap .i64 (Int.tdiv p0 86400)) - 1)) 366)))) - 1)))
    else (
     f76L0 k p0 (IntKind.wrap .i64 (Int.tdiv p0 86400)) (Int.tmod p0 86400) (IntKind.wrap .i64 ((IntKind.wrap .i64 (1970 + (IntKind.wrap .i64 (Int.tdiv (IntKind.wrap .i64 (Int.tdiv p0 86400)) 366)))) - 1)))))

theorem f76_ok (k : Nat) : ∀ (p0 : Int) (r : Int × (List Int) × Er), f76 k p0 = some r → Ct.Ok PX 76 ⟨[(.im (eI .i64 p0))], [], 0, (.tup [(.im (eI .i64 r.1)), (.im (.sl 1 (r.2.1.map (eI .u8)))), (.im (eEr r.2.2))]), [], 0⟩ := by
  intro p0 r h
  unfold f76 at h
  obtain ⟨v1, h1, h⟩ := bnd h
  by_cases h2 : p0 < (IntKind.wrap .i64 (v1 * 86400))
  · rw [if_pos h2] at h
    replace h := Option.some.inj h; subst h
    exact Ct.ofWalk hT hm F76 (by kernel_rfl) (n := 1000) (ds := [.r [], .r [(1, ⟨(.c false [] ⟨[], [], [], 0, (.im (eI .i64 v1)), [], 0, [], 0⟩), [], []⟩), (5, ⟨(.h .gf), [], []⟩), (6, ⟨(.h .gf), [], []⟩), (7, ⟨(.h .gf), [], []⟩), (8, ⟨(.h .gf), [], []⟩), (9, ⟨(.h (.gt .no)), [], []⟩)], .bc true, .r [], .k ⟨[], [], [], [], [], 0, [(0, (.s [.k, (.n 1)]))], []⟩])
      (r := (.fin (.tup [(.im (eI .i64 0)), (.im (.sl 1 [])), (.im (.ifc 40 (eI .i64 3)))]) [] 0)) (obs := [Ct.Ok PX 120 ⟨[(.im (eI .i64 1950))], [], 0, (.im (eI .i64 v1)), [], 0⟩, (decide (p0 < (IntKind.wrap .i64 (v1 * 86400)))) = !false, (decide (p0 < (IntKind.wrap .i64 (v1 * 86400)))) = !false, (decide (p0 < (IntKind.wrap .i64 (v1 * 86400)))) = !false, (decide (p0 < (IntKind.wrap .i64 (v1 * 86400)))) = !false, (decide (p0 < (IntKind.wrap .i64 (v1 * 86400)))) = true])
      (by kernel_rfl) ⟨(f120_ok k 1950 v1 h1), (dt h2), (dt h2), (dt h2), (dt h2), (dt h2), trivial⟩ (fun fn hfn => ⟨rfl, rfl, rfl⟩)
  · rw [if_neg h2] at h
    obtain ⟨v2, h3, h⟩ := bnd h
    by_cases h4 : p0 ≥ (IntKind.wrap .i64 (v2 * 86400))
    · rw [if_pos h4] at h
      replace h := Option.some.inj h; subst h
      exact Ct.ofWalk hT hm F76 (by kernel_rfl) (n := 1000) (ds := [.r [], .r [(1, ⟨(.c false [] ⟨[], [], [], 0, (.im (eI .i64 v1)), [], 0, [], 0⟩), [], []⟩), (5, ⟨(.h (.gt .no)), [], []⟩), (6, ⟨(.c true [] ⟨[], [], [], 0, (.im (eI .i64 v2)), [], 0, [], 0⟩), [], []⟩), (7, ⟨(.h (.gt .no)), [], []⟩), (8, ⟨(.h (.gt .no)), [], []⟩), (9, ⟨(.h .gf), [], []⟩)], .b true, .r [], .k ⟨[], [], [], [], [], 0, [(0, (.s [.k, (.n 1)]))], []⟩])
        (r := (.fin (.tup [(.im (eI .i64 0)), (.im (.sl 1 [])), (.im (.ifc 40 (eI .i64 3)))]) [] 0)) (obs := [Ct.Ok PX 120 ⟨[(.im (eI .i64 1950))], [], 0, (.im (eI .i64 v1)), [], 0⟩, (decide (p0 < (IntKind.wrap .i64 (v1 * 86400)))) = false, (decide (p0 < (IntKind.wrap .i64 (v1 * 86400)))) = false, Ct.Ok PX 120 ⟨[(.im (eI .i64 10000))], [], 0, (.im (eI .i64 v2)), [], 0⟩, (decide (p0 < (IntKind.wrap .i64 (v1 * 86400)))) = false, (decide (p0 < (IntKind.wrap .i64 (v1 * 86400)))) = false, (decide (p0 < (IntKind.wrap .i64 (v1 * 86400)))) = false, (decide (p0 ≥ (IntKind.wrap .i64 (v2 * 86400)))) = true])
        (by kernel_rfl) ⟨(f120_ok k 1950 v1 h1), (df h2), (df h2), (f120_ok k 10000 v2 h3), (df h2), (df h2), (df h2), (dt h4), trivial⟩ (fun fn hfn => ⟨rfl, rfl, rfl⟩)
    · rw [if_neg h4] at h
      by_cases h5 : (Int.tmod p0 86400) < 0
      · rw [if_pos h5] at h
        exact Ct.ofWalk hT hm F76 (by kernel_rfl) (n := 1000) (ds := [.r [], .r [(1, ⟨(.c false [] ⟨[], [], [], 0, (.im (eI .i64 v1)), [], 0, [], 0⟩), [], []⟩), (5, ⟨(.h (.gt .no)), [], []⟩), (6, ⟨(.c true [] ⟨[], [], [], 0, (.im (eI .i64 v2)), [], 0, [], 0⟩), [], []⟩), (7, ⟨(.h (.gt .no)), [], []⟩), (8, ⟨(.h (.gt .no)), [], []⟩), (9, ⟨(.h .gf), [], []⟩)], .b false, .r [], .r [], .b true, .r [], .r [], .k ⟨[], [], [], [5, 6, 7], [], 0, [], []⟩])
          (r := (.head cc76_0 [.blk 0, .seq cc76_1] (f76L0_S p0 (IntKind.wrap .i64 ((IntKind.wrap .i64 (Int.tdiv p0 86400)) - 1)) (IntKind.wrap .i64 ((Int.tmod p0 86400) + 86400)) (IntKind.wrap .i64 ((IntKind.wrap .i64 (1970 + (IntKind.wrap .i64 (Int.tdiv (IntKind.wrap .i64 ((IntKind.wrap .i64 (Int.tdiv p0 86400)) - 1)) 366)))) - 1))))) (obs := [Ct.Ok PX 120 ⟨[(.im (eI .i64 1950))], [], 0, (.im (eI .i64 v1)), [], 0⟩, (decide (p0 < (IntKind.wrap .i64 (v1 * 86400)))) = false, (decide (p0 < (IntKind.wrap .i64 (v1 * 86400)))) = false, Ct.Ok PX 120 ⟨[(.im (eI .i64 10000))], [], 0, (.im (eI .i64 v2)), [], 0⟩, (decide (p0 < (IntKind.wrap .i64 (v1 * 86400)))) = false, (decide (p0 < (IntKind.wrap .i64 (v1 * 86400)))) = false, (decide (p0 < (IntKind.wrap .i64 (v1 * 86400)))) = false, (decide (p0 ≥ (IntKind.wrap .i64 (v2 * 86400)))) = false, (decide ((Int.tmod p0 86400) < 0)) = true])
          (by kernel_rfl) ⟨(f120_ok k 1950 v1 h1), (df h2), (df h2), (f120_ok k 10000 v2 h3), (df h2), (df h2), (df h2), (df h4), (dt h5), trivial⟩ (fun fn hfn => f76L0_ok fn hfn k p0 (IntKind.wrap .i64 ((IntKind.wrap .i64 (Int.tdiv p0 86400)) - 1)) (IntKind.wrap .i64 ((Int.tmod p0 86400) + 86400)) (IntKind.wrap .i64 ((IntKind.wrap .i64 (1970 + (IntKind.wrap .i64 (Int.tdiv (IntKind.wrap .i64 ((IntKind.wrap .i64 (Int.tdiv p0 86400)) - 1)) 366)))) - 1)) _ h)
      · rw [if_neg h5] at h
        exact Ct.ofWalk hT hm F76 (by kernel_rfl) (n := 1000) (ds := [.r [], .r [(1, ⟨(.c false [] ⟨[], [], [], 0, (.im (eI .i64 v1)), [], 0, [], 0⟩), [], []⟩), (5, ⟨(.h (.gt .no)), [], []⟩), (6, ⟨(.c true [] ⟨[], [], [], 0, (.im (eI .i64 v2)), [], 0, [], 0⟩), [], []⟩), (7, ⟨(.h (.gt .no)), [], []⟩), (8, ⟨(.h (.gt .no)), [], []⟩), (9, ⟨(.h .gf), [], []⟩)], .b false, .r [], .r [], .b false, .r [], .k ⟨[], [], [], [5, 6, 7], [], 0, [], []⟩])
          (r := (.head cc76_0 [.blk 0, .seq cc76_1] (f76L0_S p0 (IntKind.wrap .i64 (Int.tdiv p0 86400)) (Int.tmod p0 86400) (IntKind.wrap .i64 ((IntKind.wrap .i64 (1970 + (IntKind.wrap .i64 (Int.tdiv (IntKind.wrap .i64 (Int.tdiv p0 86400)) 366)))) - 1))))) (obs := [Ct.Ok PX 120 ⟨[(.im (eI .i64 1950))], [], 0, (.im (eI .i64 v1)), [], 0⟩, (decide (p0 < (IntKind.wrap .i64 (v1 * 86400)))) = false, (decide (p0 < (IntKind.wrap .i64 (v1 * 86400)))) = false, Ct.Ok PX 120 ⟨[(.im (eI .i64 10000))], [], 0, (.im (eI .i64 v2)), [], 0⟩, (decide (p0 < (IntKind.wrap .i64 (v1 * 86400)))) = false, (decide (p0 < (IntKind.wrap .i64 (v1 * 86400)))) = false, (decide (p0 < (IntKind.wrap .i64 (v1 * 86400)))) = false, (decide (p0 ≥ (IntKind.wrap .i64 (v2 * 86400)))) = false, (decide ((Int.tmod p0 86400) < 0)) = false])
          (by kernel_rfl) ⟨(f120_ok k 1950 v1 h1), (df h2), (df h2), (f120_ok k 10000 v2 h3), (df h2), (df h2), (df h2), (df h4), (df h5), trivial⟩ (fun fn hfn => f76L0_ok fn hfn k p0 (IntKind.wrap .i64 (Int.tdiv p0 86400)) (Int.tmod p0 86400) (IntKind.wrap .i64 ((IntKind.wrap .i64 (1970 + (IntKind.wrap .i64 (Int.tdiv (IntKind.wrap .i64 (Int.tdiv p0 86400)) 366)))) - 1)) _ h)

def f77 (k : Nat) (p0 : Int) (p1 : (List Int)) : Option (STlv) :=
  some (STlv.mk 0 p0 false p1 [])

theorem f77_ok (k : Nat) : ∀ (p0 : Int) (p1 : (List Int)) (r : STlv), f77 k p0 p1 = some r → Ct.Ok PX 77 ⟨[(.im (eI .i64 p0)), (.im (.sl 1 (p1.map (eI .u8))))], [], 0, (.im (.st [(1, (eI .i64 r.Class)), (1, (eI .i64 r.Tag)), (1, (eB r.Made)), (1, (.sl 1 (r.Body.map (eI .u8)))), (1, (.sl 5 (r.Kids.map eSTlv)))])), [], 0⟩ := by
  intro p0 p1 r h
  unfold f77 at h
  replace h := Option.some.inj h; subst h
  exact Ct.ofWalk hT hm F77 (by kernel_rfl) (n := 1000) (ds := [.r [], .r [], .k ⟨[], [], [], [], [], 0, [(0, (.s [.k, .k, .k, .k, (.n 5)]))], []⟩])
    (r := (.fin (.im (.st [(1, (eI .i64 0)), (1, (eI .i64 p0)), (1, (eB false)), (1, (.sl 1 (p1.map (eI .u8)))), (1, (.sl 5 []))])) [] 0)) (obs := [])
    (by kernel_rfl) trivial (fun fn hfn => ⟨rfl, rfl, rfl⟩)

def f34 (k : Nat) (p0 : Int) : Option (STlv × Bool) :=
  (f76 k p0).bind fun v1 =>
  Er.on v1.2.2 (
   (f77 k v1.1 v1.2.1).bind fun v2 =>
   some (v2, true))
   (fun v2 =>
   (f77 k v1.1 v1.2.1).bind fun v3 =>
   some (v3, false))
   (fun v2 v3 =>
   (f77 k v1.1 v1.2.1).bind fun v4 =>
   some (v4, false))

theorem f34_ok (k : Nat) : ∀ (p0 : Int) (r : STlv × Bool), f34 k p0 = some r → Ct.Ok PX 34 ⟨[(.im (eI .i64 p0))], [], 0, (.tup [(.im (.st [(1, (eI .i64 r.1.Class)), (1, (eI .i64 r.1.Tag)), (1, (eB r.1.Made)), (1, (.sl 1 (r.1.Body.map (eI .u8)))), (1, (.sl 5 (r.1.Kids.map eSTlv)))])), (.im (eB r.2))]), [], 0⟩ := by
  intro p0 r h
  unfold f34 at h
  obtain ⟨v1, h1, h⟩ := bnd h
  rcases h2 : v1.2.2 with _ | v2 | ⟨v2, v3⟩
  · rw [h2] at h; dsimp only [Er.on] at h
    obtain ⟨v2, h3, h⟩ := bnd h
    replace h := Option.some.inj h; subst h
    exact Ct.ofWalk hT hm F34 (by kernel_rfl) (n := 1000) (ds := [.r [], .r [(1, ⟨(.c false [] ⟨[], [], [], 0, (.tup [(.im (eI .i64 v1.1)), (.im (.sl 1 (v1.2.1.map (eI .u8)))), (.im (.v .nilIface))]), [], 0, [], 1⟩), [], []⟩)], .r [(2, ⟨(.c false [] ⟨[], [], [], 0, (.im (.st [(1, (eI .i64 v2.Class)), (1, (eI .i64 v2.Tag)), (1, (eB v2.Made)), (1, (.sl 1 (v2.Body.map (eI .u8)))), (1, (.sl 5 (v2.Kids.map eSTlv)))])), [], 0, [], 1⟩), [], []⟩)], .k ⟨[], [], [], [], [], 0, [], []⟩])
      (r := (.fin (.tup [(.im (.st [(1, (eI .i64 v2.Class)), (1, (eI .i64 v2.Tag)), (1, (eB v2.Made)), (1, (.sl 1 (v2.Body.map (eI .u8)))), (1, (.sl 5 (v2.Kids.map eSTlv)))])), (.im (eB true))]) [] 0)) (obs := [Ct.Ok PX 76 ⟨[(.im (eI .i64 p0))], [], 0, (.tup [(.im (eI .i64 v1.1)), (.im (.sl 1 (v1.2.1.map (eI .u8)))), (.im (.v .nilIface))]), [], 0⟩, Ct.Ok PX 77 ⟨[(.im (eI .i64 v1.1)), (.im (.sl 1 (v1.2.1.map (eI .u8))))], [], 0, (.im (.st [(1, (eI .i64 v2.Class)), (1, (eI .i64 v2.Tag)), (1, (eB v2.Made)), (1, (.sl 1 (v2.Body.map (eI .u8)))), (1, (.sl 5 (v2.Kids.map eSTlv)))])), [], 0⟩])
      (by kernel_rfl) ⟨(by have q := (f76_ok k p0 v1 h1); rw [h2] at q; exact q), (f77_ok k v1.1 v1.2.1 v2 h3), trivial⟩ (fun fn hfn => ⟨rfl, rfl, rfl⟩)
  · rw [h2] at h; dsimp only [Er.on] at h
    obtain ⟨v3, h3, h⟩ := bnd h
    replace h := Option.some.inj h; subst h
    exact Ct.ofWalk hT hm F34 (by kernel_rfl) (n := 1000) (ds := [.r [], .r [(1, ⟨(.c false [] ⟨[], [], [], 0, (.tup [(.im (eI .i64 v1.1)), (.im (.sl 1 (v1.2.1.map (eI .u8)))), (.im (.ifc 40 (eI .i64 v2)))]), [], 0, [], 1⟩), [], []⟩)], .r [(2, ⟨(.c false [] ⟨[], [], [], 0, (.im (.st [(1, (eI .i64 v3.Class)), (1, (eI .i64 v3.Tag)), (1, (eB v3.Made)), (1, (.sl 1 (v3.Body.map (eI .u8)))), (1, (.sl 5 (v3.Kids.map eSTlv)))])), [], 0, [], 1⟩), [], []⟩)], .k ⟨[], [], [], [], [], 0, [], []⟩])
      (r := (.fin (.tup [(.im (.st [(1, (eI .i64 v3.Class)), (1, (eI .i64 v3.Tag)), (1, (eB v3.Made)), (1, (.sl 1 (v3.Body.map (eI .u8)))), (1, (.sl 5 (v3.Kids.map eSTlv)))])), (.im (eB false))]) [] 0)) (obs := [Ct.Ok PX 76 ⟨[(.im (eI .i64 p0))], [], 0, (.tup [(.im (eI .i64 v1.1)), (.im (.sl 1 (v1.2.1.map (eI .u8)))), (.im (.ifc 40 (eI .i64 v2)))]), [], 0⟩, Ct.Ok PX 77 ⟨[(.im (eI .i64 v1.1)), (.im (.sl 1 (v1.2.1.map (eI .u8))))], [], 0, (.im (.st [(1, (eI .i64 v3.Class)), (1, (eI .i64 v3.Tag)), (1, (eB v3.Made)), (1, (.sl 1 (v3.Body.map (eI .u8)))), (1, (.sl 5 (v3.Kids.map eSTlv)))])), [], 0⟩])
      (by kernel_rfl) ⟨(by have q := (f76_ok k p0 v1 h1); rw [h2] at q; exact q), (f77_ok k v1.1 v1.2.1 v3 h3), trivial⟩ (fun fn hfn => ⟨rfl, rfl, rfl⟩)
  · rw [h2] at h; dsimp only [Er.on] at h
    obtain ⟨v4, h3, h⟩ := bnd h
    replace h := Option.some.inj h; subst h
    exact Ct.ofWalk hT hm F34 (by kernel_rfl) (n := 1000) (ds := [.r [], .r [(1, ⟨(.c false [] ⟨[], [], [], 0, (.tup [(.im (eI .i64 v1.1)), (.im (.sl 1 (v1.2.1.map (eI .u8)))), (.im (.ifc 77 (.pim 2 (.st [(1, (eI .i64 v2)), (1, (.ifc 40 (eI .i64 v3)))]))))]), [], 0, [], 1⟩), [], []⟩)], .r [(2, ⟨(.c false [] ⟨[], [], [], 0, (.im (.st [(1, (eI .i64 v4.Class)), (1, (eI .i64 v4.Tag)), (1, (eB v4.Made)), (1, (.sl 1 (v4.Body.map (eI .u8)))), (1, (.sl 5 (v4.Kids.map eSTlv)))])), [], 0, [], 1⟩), [], []⟩)], .k ⟨[], [], [], [], [], 0, [], []⟩])
      (r := (.fin (.tup [(.im (.st [(1, (eI .i64 v4.Class)), (1, (eI .i64 v4.Tag)), (1, (eB v4.Made)), (1, (.sl 1 (v4.Body.map (eI .u8)))), (1, (.sl 5 (v4.Kids.map eSTlv)))])), (.im (eB false))]) [] 0)) (obs := [Ct.Ok PX 76 ⟨[(.im (eI .i64 p0))], [], 0, (.tup [(.im (eI .i64 v1.1)), (.im (.sl 1 (v1.2.1.map (eI .u8)))), (.im (.ifc 77 (.pim 2 (.st [(1, (eI .i64 v2)), (1, (.ifc 40 (eI .i64 v3)))]))))]), [], 0⟩, Ct.Ok PX 77 ⟨[(.im (eI .i64 v1.1)), (.im (.sl 1 (v1.2.1.map (eI .u8))))], [], 0, (.im (.st [(1, (eI .i64 v4.Class)), (1, (eI .i64 v4.Tag)), (1, (eB v4.Made)), (1, (.sl 1 (v4.Body.map (eI .u8)))), (1, (.sl 5 (v4.Kids.map eSTlv)))])), [], 0⟩])
      (by kernel_rfl) ⟨(by have q := (f76_ok k p0 v1 h1); rw [h2] at q; exact q), (f77_ok k v1.1 v1.2.1 v4 h3), trivial⟩ (fun fn hfn => ⟨rfl, rfl, rfl⟩)

def f35 (k : Nat) (p0 : (List STlv)) : Option (Int × Int × Bool × (List STlv)) :=
  some (0, 16, true, p0)

theorem f35_ok (k : Nat) : ∀ (p0 : (List STlv)) (r : Int × Int × Bool × (List STlv)), f35 k p0 = some r → Ct.Ok PX 35 ⟨[(.ownF 5 0)], [(0, (.row 35 5 (p0.map eSTlv) 0))], 1, (.st [(1, (.im (eI .i64 r.1))), (1, (.im (eI .i64 r.2.1))), (1, (.im (eB r.2.2.1))), (1, (.im (.v (.slice none 0 0)))), (1, (.ownF 5 1))]), [(1, (.row 35 5 (r.2.2.2.map eSTlv) 0))], 2⟩ := by
  intro p0 r h
  unfold f35 at h
  replace h := Option.some.inj h; subst h
  exact Ct.ofWalk hT hm F35 (by kernel_rfl) (n := 1000) (ds := [.r [], .r [], .k ⟨[], [], [], [], [(1, 0)], 2, [], []⟩])
    (r := (.fin (.st [(1, (.im (eI .i64 0))), (1, (.im (eI .i64 16))), (1, (.im (eB true))), (1, (.im (.v (.slice none 0 0)))), (1, (.ownF 5 1))]) [(1, (.row 35 5 (p0.map eSTlv) 0))] 2)) (obs := [])
    (by kernel_rfl) trivial (fun fn hfn => ⟨rfl, rfl, rfl⟩)

def f109 (k : Nat) (p0 : (List Int)) : Option ((List Int)) :=
  some []

theorem f109_ok (k : Nat) : ∀ (p0 : (List Int)) (r : (List Int)), f109 k p0 = some r → Ct.Ok PX 109 ⟨[(.im (.nn true 1 (p0.map (eI .u8))))], [], 0, (.im (.sl 1 (r.map (eI .u8)))), [], 0⟩ := by
  intro p0 r h
  unfold f109 at h
  replace h := Option.some.inj h; subst h
  exact Ct.ofWalk hT hm F109 (by kernel_rfl) (n := 1000) (ds := [.r [], .r [], .bc true, .r [], .k ⟨[], [], [], [], [], 0, [(0, (.n 1))], []⟩])
    (r := (.fin (.im (.sl 1 [])) [] 0)) (obs := [])
    (by kernel_rfl) trivial (fun fn hfn => ⟨rfl, rfl, rfl⟩)
end Go.Proofs.Tryd.E
end

section
namespace Go.Proofs.Tryd.E
open Go Go.Eng
set_option maxRecDepth 100000
set_option linter.unusedVariables false
def f109_1 (k : Nat) (p0 : (List Int)) : Option ((List Int)) :=
  (ap 1 [] p0).bind fun v1 =>
  some v1

theorem f109_1_ok (k : Nat) : ∀ (p0 : (List Int)) (r : (List Int)), f109_1 k p0 = some r → Ct.Ok PX 109 ⟨[(.im (.nn false 1 (p0.map (eI .u8))))], [], 0, (.im (.sl 1 (r.map (eI .u8)))), [], 0⟩ := by
  intro p0 r h
  unfold f109_1 at h
  obtain ⟨v1, h1, h⟩ := bnd h
  replace h := Option.some.inj h; subst h
  exact Ct.ofWalk hT hm F109 (by kernel_rfl) (n := 1000) (ds := [.r [], .r [], .bc false, .r [(2, ⟨(.h (.ivs (v1.map (eI .u8)))), [], [(6, .w)]⟩)], .k ⟨[], [], [1], [], [], 0, [], []⟩])
    (r := (.fin (.im (.sl 1 (v1.map (eI .u8)))) [] 0)) (obs := [[] ++ (p0.map (eI .u8)) = (v1.map (eI .u8)), (v1.map (eI .u8)).length * 1 ≤ 140737488355328, (v1.map (eI .u8)).length ≤ 9223372036854775807])
    (by kernel_rfl) ⟨(ap_map (eI .u8) h1), (ap_b (eI .u8) h1), (ap_n (eI .u8) h1), trivial⟩ (fun fn hfn => ⟨rfl, rfl, rfl⟩)

def f109c (k : Nat) (p0 : (List Int)) : Option (List Int) := ap 1 [] p0
theorem f109c_ok (k : Nat) : ∀ (p0 : (List Int)) (r : (List Int)), f109c k p0 = some r → Ct.Ok PX 109 ⟨[(.im (.sl 1 (p0.map (eI .u8))))], [], 0, (.im (.sl 1 (r.map (eI .u8)))), [], 0⟩ := by
  intro p0 r h
  unfold f109c at h
  refine Ct.nils (fun he => ?_) ?_
  · have e1 : p0 = [] := List.map_eq_nil_iff.1 he
    subst e1
    have e2 : r = [] := (ap_ok h).2.2
    subst e2
    exact f109_ok k [] [] rfl
  · exact f109_1_ok k p0 r (by unfold f109_1; rw [h]; rfl)
end Go.Proofs.Tryd.E
end

section
namespace Go.Proofs.Tryd.E
open Go Go.Eng
set_option maxRecDepth 100000
set_option linter.unusedVariables false
def f79L0_S (p0 : (List Int)) (x0 : (List Int)) : S := ⟨[(0, (.im (.sl 1 (x0.map (eI .u8)))))], [], 0⟩

def f79L0 : Nat → (List Int) → (List Int) → Option ((List Int) × Er)
  | 0, _, _ => none
  | k + 1, p0, x0 =>
    if (x0.length : Int) > 0 then (
     (rd x0 0).bind fun v1 =>
     if v1 = 0 then (
      (sl x0 1 (x0.length : Int)).bind fun v2 =>
      f79L0 k p0 v2)
     else (
      if (x0.length : Int) > 64 then (
       some ([], (Er.code 2)))
      else (
       if (x0.length : Int) = 0 then (
        (ap 1 [0] x0).bind fun v2 =>
        some (v2, Er.nil))
       else (
        if v1 ≥ 128 then (
         (ap 1 [0] x0).bind fun v2 =>
         some (v2, Er.nil))
        else (
         (f109c k x0).bind fun v2 =>
         some (v2, Er.nil))))))
    else (
     if (x0.length : Int) > 64 then (
      some ([], (Er.code 2)))
     else (
      if (x0.length : Int) = 0 then (
       (ap 1 [0] x0).bind fun v1 =>
       some (v1, Er.nil))
      else (
       (rd x0 0).bind fun v1 =>
       if v1 ≥ 128 then (
        (ap 1 [0] x0).bind fun v2 =>
        some (v2, Er.nil))
       else (
        (f109c k x0).bind fun v2 =>
        some (v2, Er.nil)))))

def f79L0_P (k : Nat) : Prop := ∀ (fn : Func) (_ : fn.results = ([.t 2, .t 3].map Rv.var).toArray), ∀ (p0 : (List Int)) (x0 : (List Int)) (r : (List Int) × Er), f79L0 k p0 x0 = some r → LH PX ⟨fn, 35, 0, (.tup [(.im (.sl 1 (r.1.map (eI .u8)))), (.im (eEr r.2))]), [], 0⟩ cc79_0 [.blk 0, .seq cc79_1] (f79L0_S p0 x0)

theorem f79L0_step (k : Nat) (ih_f79L0 : f79L0_P k) : f79L0_P (k + 1) := by
  intro fn hfn p0 x0 r h
  rw [f79L0] at h
  by_cases h1 : (x0.length : Int) > 0
  · rw [if_pos h1] at h
    obtain ⟨v1, h2, h⟩ := bnd h
    by_cases h3 : v1 = 0
    · rw [if_pos h3] at h
      obtain ⟨v2, h4, h⟩ := bnd h
      exact LH.round hT hm hfn (n := 1000) (ds := [.r [(1, ⟨(.h (.int (x0.length : Int))), [], []⟩), (4, ⟨(.h (.gt .no)), [], []⟩), (5, ⟨(.h (.gt (.iv (eI .u8 v1)))), [], []⟩), (6, ⟨(.h (.gt .no)), [], []⟩), (7, ⟨(.h (.gt .no)), [], []⟩), (8, ⟨(.h (.gt .no)), [], []⟩)], .b true, .r [(1, ⟨(.h (.ivs (v2.map (eI .u8)))), [], []⟩)], .k ⟨[], [], [], [0], [], 0, [], []⟩])
        (r := (.head cc79_0 [.blk 0, .seq cc79_1] (f79L0_S p0 v2))) (obs := [((x0.map (eI .u8)).length : Int) = (x0.length : Int), (decide ((x0.length : Int) > 0)) = true, (decide ((x0.length : Int) > 0)) = true, 0 ≤ 0, (x0.map (eI .u8))[0]? = some (eI .u8 v1), (decide ((x0.length : Int) > 0)) = true, (decide ((x0.length : Int) > 0)) = true, (decide ((x0.length : Int) > 0)) = true, (v1 == 0) = true, (0 : Int) ≤ 1, (1 : Int) ≤ ((x0.map (eI .u8)).length : Int), ((x0.map (eI .u8)).length : Int) ≤ ((x0.map (eI .u8)).length : Int), ((x0.map (eI .u8)).drop (1 : Int).toNat).take ((((x0.map (eI .u8)).length : Int) : Int).toNat - (1 : Int).toNat) = (v2.map (eI .u8))])
        (by kernel_rfl) ⟨(len_m (eI .u8) _), (dt h1), (dt h1), (rd_nn h2), (rd_map (eI .u8) h2), (dt h1), (dt h1), (dt h1), (bt h3), (sl_ok h4).1, (by have q := (sl_ok h4).2.1; simpa using q), (Int.le_refl _), (by have q := sl_map (eI .u8) h4; simpa using q), trivial⟩ (ih_f79L0 fn hfn p0 v2 _ h)
    · rw [if_neg h3] at h
      by_cases h4 : (x0.length : Int) > 64
      · rw [if_pos h4] at h
        replace h := Option.some.inj h; subst h
        exact LH.round hT hm hfn (n := 1000) (ds := [.r [(1, ⟨(.h (.int (x0.length : Int))), [], []⟩), (4, ⟨(.h (.gt .no)), [], []⟩), (5, ⟨(.h (.gt (.iv (eI .u8 v1)))), [], []⟩), (6, ⟨(.h (.gt .no)), [], []⟩), (7, ⟨(.h (.gt .no)), [], []⟩), (8, ⟨(.h (.gt .no)), [], []⟩)], .b false, .r [(1, ⟨(.h (.int (x0.length : Int))), [], []⟩)], .b true, .r [], .k ⟨[], [], [], [], [], 0, [(0, (.s [(.n 1)]))], []⟩])
          (r := (.fin (.tup [(.im (.sl 1 [])), (.im (.ifc 40 (eI .i64 2)))]) [] 0)) (obs := [((x0.map (eI .u8)).length : Int) = (x0.length : Int), (decide ((x0.length : Int) > 0)) = true, (decide ((x0.length : Int) > 0)) = true, 0 ≤ 0, (x0.map (eI .u8))[0]? = some (eI .u8 v1), (decide ((x0.length : Int) > 0)) = true, (decide ((x0.length : Int) > 0)) = true, (decide ((x0.length : Int) > 0)) = true, (v1 == 0) = false, ((x0.map (eI .u8)).length : Int) = (x0.length : Int), (decide ((x0.length : Int) > 64)) = true])
          (by kernel_rfl) ⟨(len_m (eI .u8) _), (dt h1), (dt h1), (rd_nn h2), (rd_map (eI .u8) h2), (dt h1), (dt h1), (dt h1), (bf h3), (len_m (eI .u8) _), (dt h4), trivial⟩ ⟨rfl, rfl, rfl⟩
      · rw [if_neg h4] at h
        by_cases h5 : (x0.length : Int) = 0
        · rw [if_pos h5] at h
          obtain ⟨v2, h6, h⟩ := bnd h
          replace h := Option.some.inj h; subst h
          exact LH.round hT hm hfn (n := 1000) (ds := [.r [(1, ⟨(.h (.int (x0.length : Int))), [], []⟩), (4, ⟨(.h (.gt .no)), [], []⟩), (5, ⟨(.h (.gt (.iv (eI .u8 v1)))), [], []⟩), (6, ⟨(.h (.gt .no)), [], []⟩), (7, ⟨(.h (.gt .no)), [], []⟩), (8, ⟨(.h (.gt .no)), [], []⟩)], .b false, .r [(1, ⟨(.h (.int (x0.length : Int))), [], []⟩)], .b false, .r [(1, ⟨(.h (.int (x0.length : Int))), [], []⟩), (4, ⟨(.h .gf), [], []⟩), (5, ⟨(.h .gf), [], []⟩), (6, ⟨(.h .gf), [], []⟩), (7, ⟨(.h .gf), [], []⟩), (8, ⟨(.h (.gt .no)), [], []⟩)], .bc true, .r [(2, ⟨(.h (.ivs (v2.map (eI .u8)))), [], []⟩)], .k ⟨[], [], [1], [], [], 0, [], []⟩])
            (r := (.fin (.tup [(.im (.sl 1 (v2.map (eI .u8)))), (.im (.v .nilIface))]) [] 0)) (obs := [((x0.map (eI .u8)).length : Int) = (x0.length : Int), (decide ((x0.length : Int) > 0)) = true, (decide ((x0.length : Int) > 0)) = true, 0 ≤ 0, (x0.map (eI .u8))[0]? = some (eI .u8 v1), (decide ((x0.length : Int) > 0)) = true, (decide ((x0.length : Int) > 0)) = true, (decide ((x0.length : Int) > 0)) = true, (v1 == 0) = false, ((x0.map (eI .u8)).length : Int) = (x0.length : Int), (decide ((x0.length : Int) > 64)) = false, ((x0.map (eI .u8)).length : Int) = (x0.length : Int), ((x0.length : Int) == 0) = !false, ((x0.length : Int) == 0) = !false, ((x0.length : Int) == 0) = !false, ((x0.length : Int) == 0) = !false, ((x0.length : Int) == 0) = true, [(eI .u8 0)] ++ (x0.map (eI .u8)) = (v2.map (eI .u8)), (v2.map (eI .u8)).length * 1 ≤ 140737488355328, (v2.map (eI .u8)).length ≤ 9223372036854775807])
            (by kernel_rfl) ⟨(len_m (eI .u8) _), (dt h1), (dt h1), (rd_nn h2), (rd_map (eI .u8) h2), (dt h1), (dt h1), (dt h1), (bf h3), (len_m (eI .u8) _), (df h4), (len_m (eI .u8) _), (bt h5), (bt h5), (bt h5), (bt h5), (bt h5), (ap_map (eI .u8) h6), (ap_b (eI .u8) h6), (ap_n (eI .u8) h6), trivial⟩ ⟨rfl, rfl, rfl⟩
        · rw [if_neg h5] at h
          by_cases h6 : v1 ≥ 128
          · rw [if_pos h6] at h
            obtain ⟨v2, h7, h⟩ := bnd h
            replace h := Option.some.inj h; subst h
            exact LH.round hT hm hfn (n := 1000) (ds := [.r [(1, ⟨(.h (.int (x0.length : Int))), [], []⟩), (4, ⟨(.h (.gt .no)), [], []⟩), (5, ⟨(.h (.gt (.iv (eI .u8 v1)))), [], []⟩), (6, ⟨(.h (.gt .no)), [], []⟩), (7, ⟨(.h (.gt .no)), [], []⟩), (8, ⟨(.h (.gt .no)), [], []⟩)], .b false, .r [(1, ⟨(.h (.int (x0.length : Int))), [], []⟩)], .b false, .r [(1, ⟨(.h (.int (x0.length : Int))), [], []⟩), (4, ⟨(.h (.gt .no)), [], []⟩), (5, ⟨(.h (.gt (.iv (eI .u8 v1)))), [], []⟩), (6, ⟨(.h (.gt .no)), [], []⟩), (7, ⟨(.h (.gt .no)), [], []⟩), (8, ⟨(.h .gf), [], []⟩)], .b true, .r [(2, ⟨(.h (.ivs (v2.map (eI .u8)))), [], []⟩)], .k ⟨[], [], [1], [], [], 0, [], []⟩])
              (r := (.fin (.tup [(.im (.sl 1 (v2.map (eI .u8)))), (.im (.v .nilIface))]) [] 0)) (obs := [((x0.map (eI .u8)).length : Int) = (x0.length : Int), (decide ((x0.length : Int) > 0)) = true, (decide ((x0.length : Int) > 0)) = true, 0 ≤ 0, (x0.map (eI .u8))[0]? = some (eI .u8 v1), (decide ((x0.length : Int) > 0)) = true, (decide ((x0.length : Int) > 0)) = true, (decide ((x0.length : Int) > 0)) = true, (v1 == 0) = false, ((x0.map (eI .u8)).length : Int) = (x0.length : Int), (decide ((x0.length : Int) > 64)) = false, ((x0.map (eI .u8)).length : Int) = (x0.length : Int), ((x0.length : Int) == 0) = false, ((x0.length : Int) == 0) = false, 0 ≤ 0, (x0.map (eI .u8))[0]? = some (eI .u8 v1), ((x0.length : Int) == 0) = false, ((x0.length : Int) == 0) = false, ((x0.length : Int) == 0) = false, (decide (v1 ≥ 128)) = true, [(eI .u8 0)] ++ (x0.map (eI .u8)) = (v2.map (eI .u8)), (v2.map (eI .u8)).length * 1 ≤ 140737488355328, (v2.map (eI .u8)).length ≤ 9223372036854775807])
              (by kernel_rfl) ⟨(len_m (eI .u8) _), (dt h1), (dt h1), (rd_nn h2), (rd_map (eI .u8) h2), (dt h1), (dt h1), (dt h1), (bf h3), (len_m (eI .u8) _), (df h4), (len_m (eI .u8) _), (bf h5), (bf h5), (rd_nn h2), (rd_map (eI .u8) h2), (bf h5), (bf h5), (bf h5), (dt h6), (ap_map (eI .u8) h7), (ap_b (eI .u8) h7), (ap_n (eI .u8) h7), trivial⟩ ⟨rfl, rfl, rfl⟩
          · rw [if_neg h6] at h
            obtain ⟨v2, h7, h⟩ := bnd h
            replace h := Option.some.inj h; subst h
            exact LH.round hT hm hfn (n := 1000) (ds := [.r [(1, ⟨(.h (.int (x0.length : Int))), [], []⟩), (4, ⟨(.h (.gt .no)), [], []⟩), (5, ⟨(.h (.gt (.iv (eI .u8 v1)))), [], []⟩), (6, ⟨(.h (.gt .no)), [], []⟩), (7, ⟨(.h (.gt .no)), [], []⟩), (8, ⟨(.h (.gt .no)), [], []⟩)], .b false, .r [(1, ⟨(.h (.int (x0.length : Int))), [], []⟩)], .b false, .r [(1, ⟨(.h (.int (x0.length : Int))), [], []⟩), (4, ⟨(.h (.gt .no)), [], []⟩), (5, ⟨(.h (.gt (.iv (eI .u8 v1)))), [], []⟩), (6, ⟨(.h (.gt .no)), [], []⟩), (7, ⟨(.h (.gt .no)), [], []⟩), (8, ⟨(.h .gf), [], []⟩)], .b false, .r [(1, ⟨(.c false [] ⟨[], [], [], 0, (.im (.sl 1 (v2.map (eI .u8)))), [], 0, [], 0⟩), [], []⟩)], .k ⟨[], [], [], [], [], 0, [], []⟩])
              (r := (.fin (.tup [(.im (.sl 1 (v2.map (eI .u8)))), (.im (.v .nilIface))]) [] 0)) (obs := [((x0.map (eI .u8)).length : Int) = (x0.length : Int), (decide ((x0.length : Int) > 0)) = true, (decide ((x0.length : Int) > 0)) = true, 0 ≤ 0, (x0.map (eI .u8))[0]? = some (eI .u8 v1), (decide ((x0.length : Int) > 0)) = true, (decide ((x0.length : Int) > 0)) = true, (decide ((x0.length : Int) > 0)) = true, (v1 == 0) = false, ((x0.map (eI .u8)).length : Int) = (x0.length : Int), (decide ((x0.length : Int) > 64)) = false, ((x0.map (eI .u8)).length : Int) = (x0.length : Int), ((x0.length : Int) == 0) = false, ((x0.length : Int) == 0) = false, 0 ≤ 0, (x0.map (eI .u8))[0]? = some (eI .u8 v1), ((x0.length : Int) == 0) = false, ((x0.length : Int) == 0) = false, ((x0.length : Int) == 0) = false, (decide (v1 ≥ 128)) = false, Ct.Ok PX 109 ⟨[(.im (.sl 1 (x0.map (eI .u8))))], [], 0, (.im (.sl 1 (v2.map (eI .u8)))), [], 0⟩])
              (by kernel_rfl) ⟨(len_m (eI .u8) _), (dt h1), (dt h1), (rd_nn h2), (rd_map (eI .u8) h2), (dt h1), (dt h1), (dt h1), (bf h3), (len_m (eI .u8) _), (df h4), (len_m (eI .u8) _), (bf h5), (bf h5), (rd_nn h2), (rd_map (eI .u8) h2), (bf h5), (bf h5), (bf h5), (df h6), (f109c_ok k x0 v2 h7), trivial⟩ ⟨rfl, rfl, rfl⟩
  · rw [if_neg h1] at h
    by_cases h2 : (x0.length : Int) > 64
    · rw [if_pos h2] at h
      replace h := Option.some.inj h; subst h
      exact LH.round hT hm hfn (n := 1000) (ds := [.r [(1, ⟨(.h (.int (x0.length : Int))), [], []⟩), (4, ⟨(.h .gf), [], []⟩), (5, ⟨(.h .gf), [], []⟩), (6, ⟨(.h .gf), [], []⟩), (7, ⟨(.h .gf), [], []⟩), (8, ⟨(.h .gf), [], []⟩)], .bc false, .r [(1, ⟨(.h (.int (x0.length : Int))), [], []⟩)], .b true, .r [], .k ⟨[], [], [], [], [], 0, [(0, (.s [(.n 1)]))], []⟩])
        (r := (.fin (.tup [(.im (.sl 1 [])), (.im (.ifc 40 (eI .i64 2)))]) [] 0)) (obs := [((x0.map (eI .u8)).length : Int) = (x0.length : Int), (decide ((x0.length : Int) > 0)) = !true, (decide ((x0.length : Int) > 0)) = !true, (decide ((x0.length : Int) > 0)) = !true, (decide ((x0.length : Int) > 0)) = !true, (decide ((x0.length : Int) > 0)) = false, ((x0.map (eI .u8)).length : Int) = (x0.length : Int), (decide ((x0.length : Int) > 64)) = true])
        (by kernel_rfl) ⟨(len_m (eI .u8) _), (df h1), (df h1), (df h1), (df h1), (df h1), (len_m (eI .u8) _), (dt h2), trivial⟩ ⟨rfl, rfl, rfl⟩
    · rw [if_neg h2] at h
      by_cases h3 : (x0.length : Int) = 0
      · rw [if_pos h3] at h
        obtain ⟨v1, h4, h⟩ := bnd h
        replace h := Option.some.inj h; subst h
        exact LH.round hT hm hfn (n := 1000) (ds := [.r [(1, ⟨(.h (.int (x0.length : Int))), [], []⟩), (4, ⟨(.h .gf), [], []⟩), (5, ⟨(.h .gf), [], []⟩), (6, ⟨(.h .gf), [], []⟩), (7, ⟨(.h .gf), [], []⟩), (8, ⟨(.h .gf), [], []⟩)], .bc false, .r [(1, ⟨(.h (.int (x0.length : Int))), [], []⟩)], .b false, .r [(1, ⟨(.h (.int (x0.length : Int))), [], []⟩), (4, ⟨(.h .gf), [], []⟩), (5, ⟨(.h .gf), [], []⟩), (6, ⟨(.h .gf), [], []⟩), (7, ⟨(.h .gf), [], []⟩), (8, ⟨(.h (.gt .no)), [], []⟩)], .bc true, .r [(2, ⟨(.h (.ivs (v1.map (eI .u8)))), [], []⟩)], .k ⟨[], [], [1], [], [], 0, [], []⟩])
          (r := (.fin (.tup [(.im (.sl 1 (v1.map (eI .u8)))), (.im (.v .nilIface))]) [] 0)) (obs := [((x0.map (eI .u8)).length : Int) = (x0.length : Int), (decide ((x0.length : Int) > 0)) = !true, (decide ((x0.length : Int) > 0)) = !true, (decide ((x0.length : Int) > 0)) = !true, (decide ((x0.length : Int) > 0)) = !true, (decide ((x0.length : Int) > 0)) = false, ((x0.map (eI .u8)).length : Int) = (x0.length : Int), (decide ((x0.length : Int) > 64)) = false, ((x0.map (eI .u8)).length : Int) = (x0.length : Int), ((x0.length : Int) == 0) = !false, ((x0.length : Int) == 0) = !false, ((x0.length : Int) == 0) = !false, ((x0.length : Int) == 0) = !false, ((x0.length : Int) == 0) = true, [(eI .u8 0)] ++ (x0.map (eI .u8)) = (v1.map (eI .u8)), (v1.map (eI .u8)).length * 1 ≤ 140737488355328, (v1.map (eI .u8)).length ≤ 9223372036854775807])
          (by kernel_rfl) ⟨(len_m (eI .u8) _), (df h1), (df h1), (df h1), (df h1), (df h1), (len_m (eI .u8) _), (df h2), (len_m (eI .u8) _), (bt h3), (bt h3), (bt h3), (bt h3), (bt h3), (ap_map (eI .u8) h4), (ap_b (eI .u8) h4), (ap_n (eI .u8) h4), trivial⟩ ⟨rfl, rfl, rfl⟩
      · rw [if_neg h3] at h
        obtain ⟨v1, h4, h⟩ := bnd h
        by_cases h5 : v1 ≥ 128
        · rw [if_pos h5] at h
          obtain ⟨v2, h6, h⟩ := bnd h
          replace h := Option.some.inj h; subst h
          exact LH.round hT hm hfn (n := 1000) (ds := [.r [(1, ⟨(.h (.int (x0.length : Int))), [], []⟩), (4, ⟨(.h .gf), [], []⟩), (5, ⟨(.h .gf), [], []⟩), (6, ⟨(.h .gf), [], []⟩), (7, ⟨(.h .gf), [], []⟩), (8, ⟨(.h .gf), [], []⟩)], .bc false, .r [(1, ⟨(.h (.int (x0.length : Int))), [], []⟩)], .b false, .r [(1, ⟨(.h (.int (x0.length : Int))), [], []⟩), (4, ⟨(.h (.gt .no)), [], []⟩), (5, ⟨(.h (.gt (.iv (eI .u8 v1)))), [], []⟩), (6, ⟨(.h (.gt .no)), [], []⟩), (7, ⟨(.h (.gt .no)), [], []⟩), (8, ⟨(.h .gf), [], []⟩)], .b true, .r [(2, ⟨(.h (.ivs (v2.map (eI .u8)))), [], []⟩)], .k ⟨[], [], [1], [], [], 0, [], []⟩])
            (r := (.fin (.tup [(.im (.sl 1 (v2.map (eI .u8)))), (.im (.v .nilIface))]) [] 0)) (obs := [((x0.map (eI .u8)).length : Int) = (x0.length : Int), (decide ((x0.length : Int) > 0)) = !true, (decide ((x0.length : Int) > 0)) = !true, (decide ((x0.length : Int) > 0)) = !true, (decide ((x0.length : Int) > 0)) = !true, (decide ((x0.length : Int) > 0)) = false, ((x0.map (eI .u8)).length : Int) = (x0.length : Int), (decide ((x0.length : Int) > 64)) = false, ((x0.map (eI .u8)).length : Int) = (x0.length : Int), ((x0.length : Int) == 0) = false, ((x0.length : Int) == 0) = false, 0 ≤ 0, (x0.map (eI .u8))[0]? = some (eI .u8 v1), ((x0.length : Int) == 0) = false, ((x0.length : Int) == 0) = false, ((x0.length : Int) == 0) = false, (decide (v1 ≥ 128)) = true, [(eI .u8 0)] ++ (x0.map (eI .u8)) = (v2.map (eI .u8)), (v2.map (eI .u8)).length * 1 ≤ 140737488355328, (v2.map (eI .u8)).length ≤ 9223372036854775807])
            (by kernel_rfl) ⟨(len_m (eI .u8) _), (df h1), (df h1), (df h1), (df h1), (df h1), (len_m (eI .u8) _), (df h2), (len_m (eI .u8) _), (bf h3), (bf h3), (rd_nn h4), (rd_map (eI .u8) h4), (bf h3), (bf h3), (bf h3), (dt h5), (ap_map (eI .u8) h6), (ap_b (eI .u8) h6), (ap_n (eI .u8) h6), trivial⟩ ⟨rfl, rfl, rfl⟩
        · rw [if_neg h5] at h
          obtain ⟨v2, h6, h⟩ := bnd h
          replace h := Option.some.inj h; subst h
          exact LH.round hT hm hfn (n := 1000) (ds := [.r [(1, ⟨(.h (.int (x0.length : Int))), [], []⟩), (4, ⟨(.h .gf), [], []⟩), (5, ⟨(.h .gf), [], []⟩), (6, ⟨(.h .gf), [], []⟩), (7, ⟨(.h .gf), [], []⟩), (8, ⟨(.h .gf), [], []⟩)], .bc false, .r [(1, ⟨(.h (.int (x0.length : Int))), [], []⟩)], .b false, .r [(1, ⟨(.h (.int (x0.length : Int))), [], []⟩), (4, ⟨(.h (.gt .no)), [], []⟩), (5, ⟨(.h (.gt (.iv (eI .u8 v1)))), [], []⟩), (6, ⟨(.h (.gt .no)), [], []⟩), (7, ⟨(.h (.gt .no)), [], []⟩), (8, ⟨(.h .gf), [], []⟩)], .b false, .r [(1, ⟨(.c false [] ⟨[], [], [], 0, (.im (.sl 1 (v2.map (eI .u8)))), [], 0, [], 0⟩), [], []⟩)], .k ⟨[], [], [], [], [], 0, [], []⟩])
            (r := (.fin (.tup [(.im (.sl 1 (v2.map (eI .u8)))), (.im (.v .nilIface))]) [] 0)) (obs := [((x0.map (eI .u8)).length : Int) = (x0.length : Int), (decide ((x0.length : Int) > 0)) = !true, (decide ((x0.length : Int) > 0)) = !true, (decide ((x0.length : Int) > 0)) = !true, (decide ((x0.length : Int) > 0)) = !true, (decide ((x0.length : Int) > 0)) = false, ((x0.map (eI .u8)).length : Int) = (x0.length : Int), (decide ((x0.length : Int) > 64)) = false, ((x0.map (eI .u8)).length : Int) = (x0.length : Int), ((x0.length : Int) == 0) = false, ((x0.length : Int) == 0) = false, 0 ≤ 0, (x0.map (eI .u8))[0]? = some (eI .u8 v1), ((x0.length : Int) == 0) = false, ((x0.length : Int) == 0) = false, ((x0.length : Int) == 0) = false, (decide (v1 ≥ 128)) = false, Ct.Ok PX 109 ⟨[(.im (.sl 1 (x0.map (eI .u8))))], [], 0, (.im (.sl 1 (v2.map (eI .u8)))), [], 0⟩])
            (by kernel_rfl) ⟨(len_m (eI .u8) _), (df h1), (df h1), (df h1), (df h1), (df h1), (len_m (eI .u8) _), (df h2), (len_m (eI .u8) _), (bf h3), (bf h3), (rd_nn h4), (rd_map (eI .u8) h4), (bf h3), (bf h3), (bf h3), (df h5), (f109c_ok k x0 v2 h6), trivial⟩ ⟨rfl, rfl, rfl⟩

theorem f79L0_all : ∀ k, f79L0_P k
  | 0 => (by intro fn hfn _ _ r h; rw [f79L0] at h; cases h)
  | k + 1 => f79L0_step k (f79L0_all k)

theorem f79L0_ok (fn : Func) (hfn : fn.results = ([.t 2, .t 3].map Rv.var).toArray) (k : Nat) : ∀ (p0 : (List Int)) (x0 : (List Int)) (r : (List Int) × Er), f79L0 k p0 x0 = some r → LH PX ⟨fn, 35, 0, (.tup [(.im (.sl 1 (r.1.map (eI .u8)))), (.im (eEr r.2))]), [], 0⟩ cc79_0 [.blk 0, .seq cc79_1] (f79L0_S p0 x0) := (f79L0_all k) fn hfn
end Go.Proofs.Tryd.E
end

section
namespace Go.Proofs.Tryd.E
open Go Go.Eng
set_option maxRecDepth 100000
set_option linter.unusedVariables false
def f79 (k : Nat) (p0 : (List Int)) : Option ((List Int) × Er) :=
  f79L0 k p0 p0

theorem f79_ok (k : Nat) : ∀ (p0 : (List Int)) (r : (List Int) × Er), f79 k p0 = some r → Ct.Ok PX 79 ⟨[(.im (.sl 1 (p0.map (eI .u8))))], [], 0, (.tup [(.im (.sl 1 (r.1.map (eI .u8)))), (.im (eEr r.2))]), [], 0⟩ := by
  intro p0 r h
  unfold f79 at h
  exact Ct.ofWalk hT hm F79 (by kernel_rfl) (n := 1000) (ds := [.r [], .k ⟨[], [], [], [0], [], 0, [], []⟩])
    (r := (.head cc79_0 [.blk 0, .seq cc79_1] (f79L0_S p0 p0))) (obs := [])
    (by kernel_rfl) trivial (fun fn hfn => f79L0_ok fn hfn k p0 p0 _ h)

def f38 (k : Nat) (p0 : (List Int)) : Option (STlv × Bool) :=
  if (p0.length : Int) < 1 then (
   some ((STlv.mk 0 0 false [] []), false))
  else (
   if (p0.length : Int) > 20 then (
    some ((STlv.mk 0 0 false [] []), false))
   else (
    (rd p0 0).bind fun v1 =>
    if v1 = 0 then (
     some ((STlv.mk 0 0 false [] []), false))
    else (
     (f79 k p0).bind fun v2 =>
     Er.on v2.2 (
      (f77 k 2 v2.1).bind fun v3 =>
      some (v3, true))
      (fun v3 =>
      (f77 k 2 v2.1).bind fun v4 =>
      some (v4, false))
      (fun v3 v4 =>
      (f77 k 2 v2.1).bind fun v5 =>
      some (v5, false)))))

theorem f38_ok (k : Nat) : ∀ (p0 : (List Int)) (r : STlv × Bool), f38 k p0 = some r → Ct.Ok PX 38 ⟨[(.im (.sl 1 (p0.map (eI .u8))))], [], 0, (.tup [(.im (.st [(1, (eI .i64 r.1.Class)), (1, (eI .i64 r.1.Tag)), (1, (eB r.1.Made)), (1, (.sl 1 (r.1.Body.map (eI .u8)))), (1, (.sl 5 (r.1.Kids.map eSTlv)))])), (.im (eB r.2))]), [], 0⟩ := by
  intro p0 r h
  unfold f38 at h
  by_cases h1 : (p0.length : Int) < 1
  · rw [if_pos h1] at h
    replace h := Option.some.inj h; subst h
    exact Ct.ofWalk hT hm F38 (by kernel_rfl) (n := 1000) (ds := [.r [], .r [(1, ⟨(.h (.int (p0.length : Int))), [], []⟩), (4, ⟨(.h .gf), [], []⟩), (5, ⟨(.h .gf), [], []⟩), (6, ⟨(.h .gf), [], []⟩), (7, ⟨(.h (.gt .no)), [], []⟩)], .bc true, .r [], .k ⟨[], [], [], [], [], 0, [(0, (.s [(.s [.k, .k, .k, (.n 1), (.n 5)])]))], []⟩])
      (r := (.fin (.tup [(.im (.st [(1, (eI .i64 0)), (1, (eI .i64 0)), (1, (eB false)), (1, (.sl 1 [])), (1, (.sl 5 []))])), (.im (eB false))]) [] 0)) (obs := [((p0.map (eI .u8)).length : Int) = (p0.length : Int), (decide ((p0.length : Int) < 1)) = !false, (decide ((p0.length : Int) < 1)) = !false, (decide ((p0.length : Int) < 1)) = !false, (decide ((p0.length : Int) < 1)) = true])
      (by kernel_rfl) ⟨(len_m (eI .u8) _), (dt h1), (dt h1), (dt h1), (dt h1), trivial⟩ (fun fn hfn => ⟨rfl, rfl, rfl⟩)
  · rw [if_neg h1] at h
    by_cases h2 : (p0.length : Int) > 20
    · rw [if_pos h2] at h
      replace h := Option.some.inj h; subst h
      exact Ct.ofWalk hT hm F38 (by kernel_rfl) (n := 1000) (ds := [.r [], .r [(1, ⟨(.h (.int (p0.length : Int))), [], []⟩), (4, ⟨(.h (.gt .no)), [], []⟩), (5, ⟨(.h (.gt (.int (p0.length : Int)))), [], []⟩), (6, ⟨(.h (.gt .no)), [], []⟩), (7, ⟨(.h .gf), [], []⟩), (9, ⟨(.h .gf), [], []⟩), (10, ⟨(.h .gf), [], []⟩), (11, ⟨(.h .gf), [], []⟩), (12, ⟨(.h .gf), [], []⟩), (13, ⟨(.h (.gt .no)), [], []⟩)], .bc true, .r [], .k ⟨[], [], [], [], [], 0, [(0, (.s [(.s [.k, .k, .k, (.n 1), (.n 5)])]))], []⟩])
        (r := (.fin (.tup [(.im (.st [(1, (eI .i64 0)), (1, (eI .i64 0)), (1, (eB false)), (1, (.sl 1 [])), (1, (.sl 5 []))])), (.im (eB false))]) [] 0)) (obs := [((p0.map (eI .u8)).length : Int) = (p0.length : Int), (decide ((p0.length : Int) < 1)) = false, (decide ((p0.length : Int) < 1)) = false, ((p0.map (eI .u8)).length : Int) = (p0.length : Int), (decide ((p0.length : Int) < 1)) = false, (decide ((p0.length : Int) < 1)) = false, (decide ((p0.length : Int) > 20)) = !false, (decide ((p0.length : Int) > 20)) = !false, (decide ((p0.length : Int) > 20)) = !false, (decide ((p0.length : Int) > 20)) = !false, (decide ((p0.length : Int) > 20)) = true])
        (by kernel_rfl) ⟨(len_m (eI .u8) _), (df h1), (df h1), (len_m (eI .u8) _), (df h1), (df h1), (dt h2), (dt h2), (dt h2), (dt h2), (dt h2), trivial⟩ (fun fn hfn => ⟨rfl, rfl, rfl⟩)
    · rw [if_neg h2] at h
      obtain ⟨v1, h3, h⟩ := bnd h
      by_cases h4 : v1 = 0
      · rw [if_pos h4] at h
        replace h := Option.some.inj h; subst h
        exact Ct.ofWalk hT hm F38 (by kernel_rfl) (n := 1000) (ds := [.r [], .r [(1, ⟨(.h (.int (p0.length : Int))), [], []⟩), (4, ⟨(.h (.gt .no)), [], []⟩), (5, ⟨(.h (.gt (.int (p0.length : Int)))), [], []⟩), (6, ⟨(.h (.gt .no)), [], []⟩), (7, ⟨(.h .gf), [], []⟩), (9, ⟨(.h (.gt .no)), [], []⟩), (10, ⟨(.h (.gt (.iv (eI .u8 v1)))), [], []⟩), (11, ⟨(.h (.gt .no)), [], []⟩), (12, ⟨(.h (.gt .no)), [], []⟩), (13, ⟨(.h .gf), [], []⟩)], .b true, .r [], .k ⟨[], [], [], [], [], 0, [(0, (.s [(.s [.k, .k, .k, (.n 1), (.n 5)])]))], []⟩])
          (r := (.fin (.tup [(.im (.st [(1, (eI .i64 0)), (1, (eI .i64 0)), (1, (eB false)), (1, (.sl 1 [])), (1, (.sl 5 []))])), (.im (eB false))]) [] 0)) (obs := [((p0.map (eI .u8)).length : Int) = (p0.length : Int), (decide ((p0.length : Int) < 1)) = false, (decide ((p0.length : Int) < 1)) = false, ((p0.map (eI .u8)).length : Int) = (p0.length : Int), (decide ((p0.length : Int) < 1)) = false, (decide ((p0.length : Int) < 1)) = false, (decide ((p0.length : Int) > 20)) = false, (decide ((p0.length : Int) > 20)) = false, 0 ≤ 0, (p0.map (eI .u8))[0]? = some (eI .u8 v1), (decide ((p0.length : Int) > 20)) = false, (decide ((p0.length : Int) > 20)) = false, (decide ((p0.length : Int) > 20)) = false, (v1 == 0) = true])
          (by kernel_rfl) ⟨(len_m (eI .u8) _), (df h1), (df h1), (len_m (eI .u8) _), (df h1), (df h1), (df h2), (df h2), (rd_nn h3), (rd_map (eI .u8) h3), (df h2), (df h2), (df h2), (bt h4), trivial⟩ (fun fn hfn => ⟨rfl, rfl, rfl⟩)
      · rw [if_neg h4] at h
        obtain ⟨v2, h5, h⟩ := bnd h
        rcases h6 : v2.2 with _ | v3 | ⟨v3, v4⟩
        · rw [h6] at h; dsimp only [Er.on] at h
          obtain ⟨v3, h7, h⟩ := bnd h
          replace h := Option.some.inj h; subst h
          exact Ct.ofWalk hT hm F38 (by kernel_rfl) (n := 1000) (ds := [.r [], .r [(1, ⟨(.h (.int (p0.length : Int))), [], []⟩), (4, ⟨(.h (.gt .no)), [], []⟩), (5, ⟨(.h (.gt (.int (p0.length : Int)))), [], []⟩), (6, ⟨(.h (.gt .no)), [], []⟩), (7, ⟨(.h .gf), [], []⟩), (9, ⟨(.h (.gt .no)), [], []⟩), (10, ⟨(.h (.gt (.iv (eI .u8 v1)))), [], []⟩), (11, ⟨(.h (.gt .no)), [], []⟩), (12, ⟨(.h (.gt .no)), [], []⟩), (13, ⟨(.h .gf), [], []⟩)], .b false, .r [(1, ⟨(.c false [] ⟨[], [], [], 0, (.tup [(.im (.sl 1 (v2.1.map (eI .u8)))), (.im (.v .nilIface))]), [], 0, [], 1⟩), [], []⟩)], .r [(1, ⟨(.c false [] ⟨[], [], [], 0, (.im (.st [(1, (eI .i64 v3.Class)), (1, (eI .i64 v3.Tag)), (1, (eB v3.Made)), (1, (.sl 1 (v3.Body.map (eI .u8)))), (1, (.sl 5 (v3.Kids.map eSTlv)))])), [], 0, [], 1⟩), [], []⟩)], .k ⟨[], [], [], [], [], 0, [], []⟩])
            (r := (.fin (.tup [(.im (.st [(1, (eI .i64 v3.Class)), (1, (eI .i64 v3.Tag)), (1, (eB v3.Made)), (1, (.sl 1 (v3.Body.map (eI .u8)))), (1, (.sl 5 (v3.Kids.map eSTlv)))])), (.im (eB true))]) [] 0)) (obs := [((p0.map (eI .u8)).length : Int) = (p0.length : Int), (decide ((p0.length : Int) < 1)) = false, (decide ((p0.length : Int) < 1)) = false, ((p0.map (eI .u8)).length : Int) = (p0.length : Int), (decide ((p0.length : Int) < 1)) = false, (decide ((p0.length : Int) < 1)) = false, (decide ((p0.length : Int) > 20)) = false, (decide ((p0.length : Int) > 20)) = false, 0 ≤ 0, (p0.map (eI .u8))[0]? = some (eI .u8 v1), (decide ((p0.length : Int) > 20)) = false, (decide ((p0.length : Int) > 20)) = false, (decide ((p0.length : Int) > 20)) = false, (v1 == 0) = false, Ct.Ok PX 79 ⟨[(.im (.sl 1 (p0.map (eI .u8))))], [], 0, (.tup [(.im (.sl 1 (v2.1.map (eI .u8)))), (.im (.v .nilIface))]), [], 0⟩, Ct.Ok PX 77 ⟨[(.im (eI .i64 2)), (.im (.sl 1 (v2.1.map (eI .u8))))], [], 0, (.im (.st [(1, (eI .i64 v3.Class)), (1, (eI .i64 v3.Tag)), (1, (eB v3.Made)), (1, (.sl 1 (v3.Body.map (eI .u8)))), (1, (.sl 5 (v3.Kids.map eSTlv)))])), [], 0⟩])
            (by kernel_rfl) ⟨(len_m (eI .u8) _), (df h1), (df h1), (len_m (eI .u8) _), (df h1), (df h1), (df h2), (df h2), (rd_nn h3), (rd_map (eI .u8) h3), (df h2), (df h2), (df h2), (bf h4), (by have q := (f79_ok k p0 v2 h5); rw [h6] at q; exact q), (f77_ok k 2 v2.1 v3 h7), trivial⟩ (fun fn hfn => ⟨rfl, rfl, rfl⟩)
        · rw [h6] at h; dsimp only [Er.on] at h
          obtain ⟨v4, h7, h⟩ := bnd h
          replace h := Option.some.inj h; subst h
          exact Ct.ofWalk hT hm F38 (by kernel_rfl) (n := 1000) (ds := [.r [], .r [(1, ⟨(.h (.int (p0.length : Int))), [], []⟩), (4, ⟨(.h (.gt .no)), [], []⟩), (5, ⟨(.h (.gt (.int (p0.length : Int)))), [], []⟩), (6, ⟨(.h (.gt .no)), [], []⟩), (7, ⟨(.h .gf), [], []⟩), (9, ⟨(.h (.gt .no)), [], []⟩), (10, ⟨(.h (.gt (.iv (eI .u8 v1)))), [], []⟩), (11, ⟨(.h (.gt .no)), [], []⟩), (12, ⟨(.h (.gt .no)), [], []⟩), (13, ⟨(.h .gf), [], []⟩)], .b false, .r [(1, ⟨(.c false [] ⟨[], [], [], 0, (.tup [(.im (.sl 1 (v2.1.map (eI .u8)))), (.im (.ifc 40 (eI .i64 v3)))]), [], 0, [], 1⟩), [], []⟩)], .r [(1, ⟨(.c false [] ⟨[], [], [], 0, (.im (.st [(1, (eI .i64 v4.Class)), (1, (eI .i64 v4.Tag)), (1, (eB v4.Made)), (1, (.sl 1 (v4.Body.map (eI .u8)))), (1, (.sl 5 (v4.Kids.map eSTlv)))])), [], 0, [], 1⟩), [], []⟩)], .k ⟨[], [], [], [], [], 0, [], []⟩])
            (r := (.fin (.tup [(.im (.st [(1, (eI .i64 v4.Class)), (1, (eI .i64 v4.Tag)), (1, (eB v4.Made)), (1, (.sl 1 (v4.Body.map (eI .u8)))), (1, (.sl 5 (v4.Kids.map eSTlv)))])), (.im (eB false))]) [] 0)) (obs := [((p0.map (eI .u8)).length : Int) = (p0.length : Int), (decide ((p0.length : Int) < 1)) = false, (decide ((p0.length : Int) < 1)) = false, ((p0.map (eI .u8)).length : Int) = (p0.length : Int), (decide ((p0.length : Int) < 1)) = false, (decide ((p0.length : Int) < 1)) = false, (decide ((p0.length : Int) > 20)) = false, (decide ((p0.length : Int) > 20)) = false, 0 ≤ 0, (p0.map (eI .u8))[0]? = some (eI .u8 v1), (decide ((p0.length : Int) > 20)) = false, (decide ((p0.length : Int) > 20)) = false, (decide ((p0.length : Int) > 20)) = false, (v1 == 0) = false, Ct.Ok PX 79 ⟨[(.im (.sl 1 (p0.map (eI .u8))))], [], 0, (.tup [(.im (.sl 1 (v2.1.map (eI .u8)))), (.im (.ifc 40 (eI .i64 v3)))]), [], 0⟩, Ct.Ok PX 77 ⟨[(.im (eI .i64 2)), (.im (.sl 1 (v2.1.map (eI .u8))))], [], 0, (.im (.st [(1, (eI .i64 v4.Class)), (1, (eI .i64 v4.Tag)), (1, (eB v4.Made)), (1, (.sl 1 (v4.Body.map (eI .u8)))), (1, (.sl 5 (v4.Kids.map eSTlv)))])), [], 0⟩])
            (by kernel_rfl) ⟨(len_m (eI .u8) _), (df h1), (df h1), (len_m (eI .u8) _), (df h1), (df h1), (df h2), (df h2), (rd_nn h3), (rd_map (eI .u8) h3), (df h2), (df h2), (df h2), (bf h4), (by have q := (f79_ok k p0 v2 h5); rw [h6] at q; exact q), (f77_ok k 2 v2.1 v4 h7), trivial⟩ (fun fn hfn => ⟨rfl, rfl, rfl⟩)
        · rw [h6] at h; dsimp only [Er.on] at h
          obtain ⟨v5, h7, h⟩ := bnd h
          replace h := Option.some.inj h; subst h
          exact Ct.ofWalk hT hm F38 (by kernel_rfl) (n := 1000) (ds := [.r [], .r [(1, ⟨(.h (.int (p0.length : Int))), [], []⟩), (4, ⟨(.h (.gt .no)), [], []⟩), (5, ⟨(.h (.gt (.int (p0.length : Int)))), [], []⟩), (6, ⟨(.h (.gt .no)), [], []⟩), (7, ⟨(.h .gf), [], []⟩), (9, ⟨(.h (.gt .no)), [], []⟩), (10, ⟨(.h (.gt (.iv (eI .u8 v1)))), [], []⟩), (11, ⟨(.h (.gt .no)), [], []⟩), (12, ⟨(.h (.gt .no)), [], []⟩), (13, ⟨(.h .gf), [], []⟩)], .b false, .r [(1, ⟨(.c false [] ⟨[], [], [], 0, (.tup [(.im (.sl 1 (v2.1.map (eI .u8)))), (.im (.ifc 77 (.pim 2 (.st [(1, (eI .i64 v3)), (1, (.ifc 40 (eI .i64 v4)))]))))]), [], 0, [], 1⟩), [], []⟩)], .r [(1, ⟨(.c false [] ⟨[], [], [], 0, (.im (.st [(1, (eI .i64 v5.Class)), (1, (eI .i64 v5.Tag)), (1, (eB v5.Made)), (1, (.sl 1 (v5.Body.map (eI .u8)))), (1, (.sl 5 (v5.Kids.map eSTlv)))])), [], 0, [], 1⟩), [], []⟩)], .k ⟨[], [], [], [], [], 0, [], []⟩])
            (r := (.fin (.tup [(.im (.st [(1, (eI .i64 v5.Class)), (1, (eI .i64 v5.Tag)), (1, (eB v5.Made)), (1, (.sl 1 (v5.Body.map (eI .u8)))), (1, (.sl 5 (v5.Kids.map eSTlv)))])), (.im (eB false))]) [] 0)) (obs := [((p0.map (eI .u8)).length : Int) = (p0.length : Int), (decide ((p0.length : Int) < 1)) = false, (decide ((p0.length : Int) < 1)) = false, ((p0.map (eI .u8)).length : Int) = (p0.length : Int), (decide ((p0.length : Int) < 1)) = false, (decide ((p0.length : Int) < 1)) = false, (decide ((p0.length : Int) > 20)) = false, (decide ((p0.length : Int) > 20)) = false, 0 ≤ 0, (p0.map (eI .u8))[0]? = some (eI .u8 v1), (decide ((p0.length : Int) > 20)) = false, (decide ((p0.length : Int) > 20)) = false, (decide ((p0.length : Int) > 20)) = false, (v1 == 0) = false, Ct.Ok PX 79 ⟨[(.im (.sl 1 (p0.map (eI .u8))))], [], 0, (.tup [(.im (.sl 1 (v2.1.map (eI .u8)))), (.im (.ifc 77 (.pim 2 (.st [(1, (eI .i64 v3)), (1, (.ifc 40 (eI .i64 v4)))]))))]), [], 0⟩, Ct.Ok PX 77 ⟨[(.im (eI .i64 2)), (.im (.sl 1 (v2.1.map (eI .u8))))], [], 0, (.im (.st [(1, (eI .i64 v5.Class)), (1, (eI .i64 v5.Tag)), (1, (eB v5.Made)), (1, (.sl 1 (v5.Body.map (eI .u8)))), (1, (.sl 5 (v5.Kids.map eSTlv)))])), [], 0⟩])
            (by kernel_rfl) ⟨(len_m (eI .u8) _), (df h1), (df h1), (len_m (eI .u8) _), (df h1), (df h1), (df h2), (df h2), (rd_nn h3), (rd_map (eI .u8) h3), (df h2), (df h2), (df h2), (bf h4), (by have q := (f79_ok k p0 v2 h5); rw [h6] at q; exact q), (f77_ok k 2 v2.1 v5 h7), trivial⟩ (fun fn hfn => ⟨rfl, rfl, rfl⟩)
end Go.Proofs.Tryd.E
end
