/- The engine: a runner over trees, what a function does as a contract, and the steps from a tree to the program. -/
import Derived.WalkKit
set_option linter.unusedVariables false
set_option linter.unusedSimpArgs false
set_option linter.unusedSectionVars false
section
namespace Go.Eng
open Go

/-- An immutable value, as a tree. -/
inductive IV where
  | v (x : Value)
  | sl (sz : Nat) (xs : List IV)
  | pim (n : Nat) (x : IV)
  | ifc (t : TypeId) (x : IV)
  | st (fs : List (Nat × IV))
  | arr (sz : Nat) (xs : List IV)
  | fn (f : FuncId) (caps : List IV)
  | nn (b : Bool) (sz : Nat) (xs : List IV)   -- a slice of which it is known whether it is nil
  deriving Inhabited

/-- Cells that never turn. -/
abbrev Im := Nat → Nat → Option Value

def Im.le (I J : Im) : Prop := ∀ b o v, I b o = some v → J b o = some v
theorem Im.le_refl (I : Im) : I.le I := fun _ _ _ h => h
theorem Im.le_trans {I J K : Im} (h : I.le J) (k : J.le K) : I.le K := fun _ _ _ e => k _ _ _ (h _ _ _ e)

/-- These cells lie at a place. -/
def At (I : Im) (b o : Nat) (cs : List Value) : Prop := ∀ j, j < cs.length → I b (o + j) = cs[j]?

/-- A tree takes up these cells. -/
inductive RC (I : Im) : IV → List Value → Prop
  | v (x : Value) : x.oneCell' = true → RC I (.v x) [x]
  | sl (sz : Nat) (xs : List IV) (cs : List Value) (a : Option Addr) (b o cap : Nat) : RC I (.arr sz xs) cs → xs.length ≤ cap →
      (xs ≠ [] → a = some ⟨b, o, none⟩) → At I b o cs → RC I (.sl sz xs) [.slice a xs.length cap]
  | pim (n : Nat) (x : IV) (cs : List Value) (b o : Nat) : RC I x cs → cs.length = n → At I b o cs → RC I (.pim n x) [.pointer (some ⟨b, o, none⟩)]
  | ifc (t : TypeId) (x : IV) (u : Value) : RC I x [u] → u.oneCell' = true → RC I (.ifc t x) [.iface t u]
  | stN : RC I (.st []) []
  | stC (n : Nat) (x : IV) (fs : List (Nat × IV)) (c cs : List Value) : RC I x c → c.length = n → RC I (.st fs) cs → RC I (.st ((n, x) :: fs)) (c ++ cs)
  | arrN (sz : Nat) : RC I (.arr sz []) []
  | arrC (sz : Nat) (x : IV) (xs : List IV) (c cs : List Value) : RC I x c → c.length = sz → RC I (.arr sz xs) cs → RC I (.arr sz (x :: xs)) (c ++ cs)
  | fn (f : FuncId) (caps : List IV) (vs : List Value) : RC I (.arr 1 caps) vs → RC I (.fn f caps) [.func (.func f) #[] ⟨vs⟩]
  | nn (b : Bool) (sz : Nat) (xs : List IV) (a : Option Addr) (n cap : Nat) : RC I (.sl sz xs) [.slice a n cap] → a.isNone = b → RC I (.nn b sz xs) [.slice a n cap]

theorem At.mono {I J : Im} (h : I.le J) {b o : Nat} {cs : List Value} (k : At I b o cs) : At J b o cs := fun j hj => by
  have := k j hj
  rw [List.getElem?_eq_getElem hj] at this ⊢
  exact h _ _ _ this

theorem RC.mono {I J : Im} (h : I.le J) {x : IV} {cs : List Value} (k : RC I x cs) : RC J x cs := by
  induction k with
  | v x hx => exact .v x hx
  | sl sz xs cs a b o cap _ hc ha hat ih => exact .sl sz xs cs a b o cap ih hc ha (hat.mono h)
  | pim n x cs b o _ hn hat ih => exact .pim n x cs b o ih hn (hat.mono h)
  | ifc t x u _ hu ih => exact .ifc t x u ih hu
  | stN => exact .stN
  | stC n x fs c cs _ hn _ ih1 ih2 => exact .stC n x fs c cs ih1 hn ih2
  | arrN sz => exact .arrN sz
  | arrC sz x xs c cs _ hn _ ih1 ih2 => exact .arrC sz x xs c cs ih1 hn ih2
  | fn f caps vs _ ih => exact .fn f caps vs ih
  | nn b sz xs a n cap _ hb ih => exact .nn b sz xs a n cap ih hb

/-- Every cell is one cell's value. -/
theorem RC.one {I : Im} {x : IV} {cs : List Value} (k : RC I x cs) : ∀ u ∈ cs, u.oneCell' = true := by
  induction k with
  | v x hx => simpa using hx
  | sl => simp [Value.oneCell']
  | pim => simp [Value.oneCell']
  | ifc => simp [Value.oneCell']
  | stN => simp
  | stC n x fs c cs _ _ _ ih1 ih2 => intro u hu; rcases List.mem_append.1 hu with h | h; exact ih1 u h; exact ih2 u h
  | arrN => simp
  | arrC sz x xs c cs _ _ _ ih1 ih2 => intro u hu; rcases List.mem_append.1 hu with h | h; exact ih1 u h; exact ih2 u h
  | fn => simp [Value.oneCell']
  | nn => simp [Value.oneCell']

theorem RC.arr_length {I : Im} {sz : Nat} {xs : List IV} {cs : List Value} (k : RC I (.arr sz xs) cs) : cs.length = xs.length * sz := by
  induction xs generalizing cs with
  | nil => cases k; simp
  | cons x xs ih =>
    cases k with
    | arrC _ _ _ c cs' h1 h2 h3 => have := ih h3; simp [this, h2, Nat.add_mul, Nat.add_comm]

/-- Element i of a row of elements. -/
theorem RC.arr_get {I : Im} {sz : Nat} {xs : List IV} {cs : List Value} (k : RC I (.arr sz xs) cs) {i : Nat} {x : IV} (hx : xs[i]? = some x) :
    ∃ c, RC I x c ∧ c.length = sz ∧ ∀ j, j < sz → cs[i * sz + j]? = c[j]? := by
  induction xs generalizing cs i with
  | nil => simp at hx
  | cons y xs ih =>
    cases k with
    | arrC _ _ _ c cs' h1 h2 h3 =>
      cases i with
      | zero =>
        simp at hx; subst hx
        exact ⟨c, h1, h2, fun j hj => by simp [List.getElem?_append_left (show j < c.length by omega)]⟩
      | succ i =>
        simp at hx
        obtain ⟨d, e1, e2, e3⟩ := ih h3 hx
        refine ⟨d, e1, e2, fun j hj => ?_⟩
        rw [List.getElem?_append_right (by simp [Nat.add_mul]; omega), ← e3 j hj]
        congr 1
        simp [Nat.add_mul]; omega

theorem RC.arr_append {I : Im} {sz : Nat} {xs ys : List IV} {cs ds : List Value} (h : RC I (.arr sz xs) cs) (k : RC I (.arr sz ys) ds) : RC I (.arr sz (xs ++ ys)) (cs ++ ds) := by
  induction xs generalizing cs with
  | nil => cases h; simpa using k
  | cons y xs ih =>
    cases h with
    | arrC _ _ _ c cs' k1 k2 k3 => simpa using RC.arrC sz y (xs ++ ys) c (cs' ++ ds) k1 k2 (ih k3)

def nth {α : Type} : List α → Nat → Option α
  | [], _ => none
  | x :: _, 0 => some x
  | _ :: xs, n + 1 => nth xs n

theorem nth_eq {α : Type} (l : List α) (n : Nat) : nth l n = l[n]? := by
  induction l generalizing n with
  | nil => simp [nth]
  | cons x l ih => cases n <;> simp [nth, ih]

end Go.Eng
end

section
namespace Go.Eng
open Go Go.RowKit

inductive Stp where
  | f (k off : Nat)
  | e (i sz : Nat)
  deriving Inhabited

def Stp.delta : Stp → Nat
  | .f _ o => o
  | .e i sz => i * sz

def offP : List Stp → Nat
  | [] => 0
  | s :: l => s.delta + offP l

inductive PV where
  | im (x : IV)
  | ref (id : Nat) (path : List Stp)
  | ownF (sz id : Nat)
  | own (sz id off len : Nat)
  | rel (sz id i : Nat)
  | st (fs : List (Nat × PV))
  | ifc (t : TypeId) (p : PV)
  | tup (ps : List PV)
  | fn (f : FuncId) (caps : List PV)
  | gd (e : Bool) (p : PV)
  | unk
  deriving Inhabited

abbrev Bs := Nat → Option Value
def Bs.le (b c : Bs) : Prop := ∀ i v, b i = some v → c i = some v
theorem Bs.le_refl (b : Bs) : b.le b := fun _ _ h => h
theorem Bs.le_trans {a b c : Bs} (h : a.le b) (k : b.le c) : a.le c := fun _ _ e => k _ _ (h _ _ e)

/-- A slice of a full row's value. -/
def cutV (v : Value) (sz off len : Nat) (u : Value) : Prop :=
  match v with
  | .slice a n cap => off + len ≤ n ∧ ∃ a', u = .slice a' len (cap - off) ∧ (off < cap → a' = a.map (·.add (off * sz)))
  | _ => False

inductive PC (bs : Bs) (I : Im) : PV → List Value → Prop
  | im (x : IV) (cs : List Value) : RC I x cs → PC bs I (.im x) cs
  | ref (id : Nat) (path : List Stp) (b : Nat) : bs id = some (.pointer (some ⟨b, 0, none⟩)) → PC bs I (.ref id path) [.pointer (some ⟨b, offP path, none⟩)]
  | ownF (sz id : Nat) (a : Option Addr) (n cap : Nat) : bs id = some (.slice a n cap) → PC bs I (.ownF sz id) [.slice a n cap]
  | own (sz id off len : Nat) (v u : Value) : bs id = some v → cutV v sz off len u → PC bs I (.own sz id off len) [u]
  | rel (sz id i b n cap : Nat) : bs id = some (.slice (some ⟨b, 0, none⟩) n cap) → PC bs I (.rel sz id i) [.pointer (some ⟨b, i * sz, none⟩)]
  | stN : PC bs I (.st []) []
  | stC (n : Nat) (x : PV) (fs : List (Nat × PV)) (c cs : List Value) : PC bs I x c → c.length = n → PC bs I (.st fs) cs → PC bs I (.st ((n, x) :: fs)) (c ++ cs)
  | ifc (t : TypeId) (x : PV) (u : Value) : PC bs I x [u] → u.oneCell' = true → PC bs I (.ifc t x) [.iface t u]
  | fnN (f : FuncId) : PC bs I (.fn f []) [.func (.func f) #[] #[]]
  | fnC (f : FuncId) (x : PV) (u : Value) (caps : List PV) (vs : List Value) : PC bs I x [u] → PC bs I (.fn f caps) [.func (.func f) #[] ⟨vs⟩] →
      PC bs I (.fn f (x :: caps)) [.func (.func f) #[] ⟨u :: vs⟩]

theorem cutV_one {v : Value} {sz off len : Nat} {u : Value} (h : cutV v sz off len u) : u.oneCell' = true := by
  cases v <;> simp [cutV] at h
  obtain ⟨_, a', rfl, _⟩ := h; rfl

theorem PC.mono {bs cs : Bs} {I J : Im} (hb : bs.le cs) (h : I.le J) {x : PV} {l : List Value} (k : PC bs I x l) : PC cs J x l := by
  induction k with
  | im x cs k => exact .im x cs (k.mono h)
  | ref id path b k => exact .ref id path b (hb _ _ k)
  | ownF sz id a n cap k => exact .ownF sz id a n cap (hb _ _ k)
  | own sz id off len v u k c => exact .own sz id off len v u (hb _ _ k) c
  | rel sz id i b n cap k => exact .rel sz id i b n cap (hb _ _ k)
  | stN => exact .stN
  | stC n x fs c cs _ hn _ ih1 ih2 => exact .stC n x fs c cs ih1 hn ih2
  | ifc t x u _ hu ih => exact .ifc t x u ih hu
  | fnN f => exact .fnN f
  | fnC f x u caps vs _ _ ih1 ih2 => exact .fnC f x u caps vs ih1 ih2

theorem PC.one {bs : Bs} {I : Im} {x : PV} {l : List Value} (k : PC bs I x l) : ∀ u ∈ l, u.oneCell' = true := by
  induction k with
  | im x cs k => exact k.one
  | ref => simp [Value.oneCell']
  | ownF => simp [Value.oneCell']
  | own sz id off len v u k c => simpa using cutV_one c
  | rel => simp [Value.oneCell']
  | stN => simp
  | stC n x fs c cs _ _ _ ih1 ih2 => intro u hu; rcases List.mem_append.1 hu with h | h; exact ih1 u h; exact ih2 u h
  | ifc => simp [Value.oneCell']
  | fnN => simp [Value.oneCell']
  | fnC => simp [Value.oneCell']

/-- Is a tree a struct or an array? -/
def IV.isAgg : IV → Bool
  | .st _ => true
  | .arr _ _ => true
  | _ => false
def PV.isAgg : PV → Bool
  | .im x => x.isAgg
  | .st _ => true
  | _ => false

/-- A tree as a value of one slot. -/
inductive PVal (bs : Bs) (I : Im) : PV → Value → Prop
  | agg (p : PV) (cs : List Value) : p.isAgg = true → PC bs I p cs → PVal bs I p (.agg ⟨cs⟩)
  | one (p : PV) (v : Value) : p.isAgg = false → PC bs I p [v] → PVal bs I p v
  | tupN : PVal bs I (.tup []) (.tuple #[])
  | tupC (p : PV) (ps : List PV) (v : Value) (vs : List Value) : PVal bs I p v → PVal bs I (.tup ps) (.tuple ⟨vs⟩) → PVal bs I (.tup (p :: ps)) (.tuple ⟨v :: vs⟩)
  | unk (v : Value) : PVal bs I .unk v
  | gd (e : Bool) (p : PV) (v : Value) : (e = true → PVal bs I p v) → PVal bs I (.gd e p) v

theorem PVal.mono {bs cs : Bs} {I J : Im} (hb : bs.le cs) (h : I.le J) {x : PV} {l : Value} (k : PVal bs I x l) : PVal cs J x l := by
  induction k with
  | agg p cs ha hc => exact .agg p cs ha (hc.mono hb h)
  | one p v ha hc => exact .one p v ha (hc.mono hb h)
  | tupN => exact .tupN
  | tupC p ps v vs _ _ ih1 ih2 => exact .tupC p ps v vs ih1 ih2
  | unk v => exact .unk v
  | gd e p v _ ih => exact .gd e p v ih

inductive PObj where
  | box (fz : Bool) (n : Nat) (t : PV)
  | row (e sz : Nat) (xs : List IV) (m : Nat)       -- m: 0: may be written; 2: never turns; 1: partly so
  deriving Inhabited

abbrev Sto := List (Nat × PObj)

def getO : Sto → Nat → Option PObj
  | [], _ => none
  | (k, o) :: l, n => bif Nat.beq k n then some o else getO l n

def blk : Value → Option Nat
  | .pointer (some a) => some a.block
  | .slice (some a) _ _ => some a.block
  | _ => none

def ObjOk (bs : Bs) (I : Im) (w : World) (v : Value) : PObj → Prop
  | .box fz n t => ∃ b vs T, v = .pointer (some ⟨b, 0, none⟩) ∧ w.heap[b]? = some (.cells ⟨vs⟩ T (0, 0)) ∧ PC bs I t vs ∧ vs.length = n ∧ (fz = false → ∀ o, I b o = none) ∧ (fz = true → At I b 0 vs)
  | .row e sz xs m => ∃ cs, w.ownsRow 0 e sz v xs.length cs ∧ RC I (.arr sz xs) cs ∧
      ∀ b, v.ownBlock = some b → (m = 0 → ∀ o, I b o = none) ∧ (∀ o u, I b o = some u → o < cs.length) ∧ (m = 2 → At I b 0 cs)

structure Kept (B : Nat) (L : List Nat) (w0 w : World) : Prop where
  os : w.os = w0.os
  tape : w.tape = w0.tape
  output : w.output = w0.output
  size : w0.heap.size ≤ w.heap.size
  block : ∀ k, k < B → k ∉ L → w.heap[k]? = w0.heap[k]?

theorem Kept.refl (B : Nat) (L : List Nat) (w : World) : Kept B L w w := ⟨rfl, rfl, rfl, Nat.le_refl _, fun _ _ _ => rfl⟩
theorem Kept.trans {B : Nat} {L : List Nat} {a b c : World} (h : Kept B L a b) (k : Kept B L b c) : Kept B L a c :=
  ⟨k.os.trans h.os, k.tape.trans h.tape, k.output.trans h.output, Nat.le_trans h.size k.size, fun i hi hl => (k.block i hi hl).trans (h.block i hi hl)⟩

structure ORel (G : List (Nat × IV)) (B : Nat) (L : List Nat) (w0 : World) (I0 : Im) (st : Sto) (nx : Nat) (bs : Bs) (I : Im) (w : World) : Prop where
  kept : Kept B L w0 w
  ik : ∀ b o, b < B → b ∉ L → I b o = I0 b o
  base : B ≤ w0.heap.size
  imm : ∀ b o v, I b o = some v → w.cell? ⟨b, o, none⟩ = some v
  obj : ∀ id ob, getO st id = some ob → ∃ v, bs id = some v ∧ ObjOk bs I w v ob ∧ ∀ b, blk v = some b → B ≤ b ∨ b ∈ L
  sep : ∀ id id' ob ob' v v' b, getO st id = some ob → getO st id' = some ob' → id ≠ id' → bs id = some v → bs id' = some v' → blk v = some b → blk v' ≠ some b
  nxt : ∀ id, nx ≤ id → bs id = none
  glob : ∀ g x, (g, x) ∈ G → ∃ cs, RC I x cs ∧ At I g 0 cs

theorem Im.none_of_size {I : Im} {w : World} (h : ∀ b o v, I b o = some v → w.cell? ⟨b, o, none⟩ = some v) {b : Nat} (hb : w.heap.size ≤ b) (o : Nat) : I b o = none := by
  cases hv : I b o with
  | none => rfl
  | some v => have := World.block_lt_of_cell? w _ (h b o v hv); simp at this; omega

theorem blk_ownBlock {v : Value} {b : Nat} (h : v.ownBlock = some b) : blk v = some b := by
  cases v <;> simp [Value.ownBlock] at h
  rename_i a n c
  cases a <;> simp [Value.ownBlock] at h
  simpa [blk] using h

/-- An object stands as it did where its block does. -/
theorem ObjOk.kept {bs : Bs} {I : Im} {w w' : World} {v : Value} {ob : PObj} (h : ObjOk bs I w v ob) (hb : ∀ b, blk v = some b → w'.heap[b]? = w.heap[b]?)
    (hI : ∀ b, blk v = some b → b < w.heap.size) : ObjOk bs I w' v ob := by
  cases ob with
  | box fz n t =>
    obtain ⟨b, vs, T, rfl, h1, h2, h3⟩ := h
    exact ⟨b, vs, T, rfl, (hb b rfl).trans h1, h2, h3⟩
  | row e sz xs m =>
    obtain ⟨cs, h1, h2, h3⟩ := h
    refine ⟨cs, ?_, h2, h3⟩
    refine ⟨h1.1, ?_⟩
    rcases h1.2 with hn | ⟨g, cap, cur, rfl, hg, hh, r⟩
    · exact .inl hn
    · exact .inr ⟨g, cap, cur, rfl, hg, (hb g rfl).trans hh, r⟩

theorem ObjOk.lt {bs : Bs} {I : Im} {w : World} {v : Value} {ob : PObj} (h : ObjOk bs I w v ob) {b : Nat} (hb : blk v = some b) : b < w.heap.size := by
  cases ob with
  | box fz n t =>
    obtain ⟨b', vs, T, rfl, h1, h2, h3⟩ := h
    simp [blk] at hb; subst hb
    exact (Array.getElem?_eq_some_iff.1 h1).1
  | row e sz xs m =>
    obtain ⟨cs, h1, h2, h3⟩ := h
    rcases h1.2 with ⟨rfl, _⟩ | ⟨g, cap, cur, rfl, hg, hh, r⟩
    · simp [blk] at hb
    · simp [blk] at hb; subst hb
      exact (Array.getElem?_eq_some_iff.1 hh).1

/-- More is known: more names, more cells that never turn, none of them in an object's block. -/
theorem ObjOk.mono {bs cs : Bs} {I J : Im} {w : World} {v : Value} {ob : PObj} (hbs : bs.le cs) (hI : I.le J) (hfree : ∀ b, blk v = some b → ∀ o, J b o = I b o)
    (h : ObjOk bs I w v ob) : ObjOk cs J w v ob := by
  cases ob with
  | box fz n t =>
    obtain ⟨b, vs, T, rfl, h1, h2, hn, h3, h4⟩ := h
    exact ⟨b, vs, T, rfl, h1, h2.mono hbs hI, hn, fun hf o => (hfree b rfl o).trans (h3 hf o), fun hf => (h4 hf).mono hI⟩
  | row e sz xs m =>
    obtain ⟨cs, h1, h2, h3⟩ := h
    refine ⟨cs, h1, h2.mono hI, fun b hb => ?_⟩
    obtain ⟨k0, k1, k2⟩ := h3 b hb
    refine ⟨fun hm o => (hfree b (blk_ownBlock hb) o).trans (k0 hm o), fun o u hu => k1 o u (by rw [← hfree b (blk_ownBlock hb) o]; exact hu), fun hf j hj => ?_⟩
    rw [hfree b (blk_ownBlock hb)]; exact k2 hf j hj

end Go.Eng
end

section
namespace Go.Eng
open Go Go.RowKit

def setO : Sto → Nat → PObj → Sto
  | [], _, _ => []
  | (k, o) :: l, n, x => bif Nat.beq k n then (k, x) :: l else (k, o) :: setO l n x

def delO : Sto → Nat → Sto
  | [], _ => []
  | (k, o) :: l, n => bif Nat.beq k n then delO l n else (k, o) :: delO l n

theorem getO_setO (st : Sto) (n m : Nat) (x : PObj) : getO (setO st n x) m = if n = m then (getO st n).map (fun _ => x) else getO st m := by
  induction st with
  | nil => simp [setO, getO]
  | cons a l ih =>
    obtain ⟨k, o⟩ := a
    by_cases hk : k = n
    · subst hk
      by_cases hm : k = m
      · subst hm; simp [setO, getO]
      · have : Nat.beq k m = false := by rw [← Bool.not_eq_true, Nat.beq_eq]; exact hm
        simp [setO, getO, hm, this]
    · have hkn : Nat.beq k n = false := by rw [← Bool.not_eq_true, Nat.beq_eq]; exact hk
      by_cases hm : n = m
      · subst hm
        simp only [if_true] at ih
        simp [setO, getO, hkn, ih]
      · simp only [hm, if_false] at ih
        simp [setO, getO, hkn, ih, hm]

theorem getO_delO (st : Sto) (n m : Nat) : getO (delO st n) m = if n = m then none else getO st m := by
  induction st with
  | nil => simp [delO, getO]
  | cons a l ih =>
    obtain ⟨k, o⟩ := a
    by_cases hk : k = n
    · subst hk
      by_cases hm : k = m
      · subst hm; simpa [delO] using ih
      · have : Nat.beq k m = false := by rw [← Bool.not_eq_true, Nat.beq_eq]; exact hm
        simp only [hm, if_false] at ih
        simp [delO, getO, this, ih, hm]
    · have hkn : Nat.beq k n = false := by rw [← Bool.not_eq_true, Nat.beq_eq]; exact hk
      by_cases hm : n = m
      · subst hm
        simp only [if_true] at ih
        simp [delO, getO, hkn, ih]
      · simp only [hm, if_false] at ih
        simp [delO, getO, hkn, ih, hm]

def updB (bs : Bs) (n : Nat) (v : Value) : Bs := fun m => if m = n then some v else bs m

section
variable {G : List (Nat × IV)} {B : Nat} {L : List Nat} {w0 : World} {I0 : Im} {st st' : Sto} {nx nx' : Nat} {bs bs' : Bs} {I I' : Im} {w w' : World}

theorem ORel.le_upd (h : ORel G B L w0 I0 st nx bs I w) (v : Value) : bs.le (updB bs nx v) := fun i u hi => by
  simp only [updB]
  split
  · rename_i e; subst e; rw [h.nxt _ (Nat.le_refl _)] at hi; cases hi
  · exact hi

/-- The master step. D: the blocks that may have been written. -/
theorem ORel.change (D : Nat → Prop) (h : ORel G B L w0 I0 st nx bs I w) (hk : Kept B L w w') (hD : ∀ k, k < w.heap.size → ¬ D k → w'.heap[k]? = w.heap[k]?)
    (hbs : bs.le bs') (hnx : ∀ id, nx' ≤ id → bs' id = none) (hI : I.le I') (himm : ∀ b o v, I' b o = some v → w'.cell? ⟨b, o, none⟩ = some v)
    (hobj : ∀ id ob, getO st' id = some ob → (∃ v, getO st id = some ob ∧ bs id = some v ∧ ∀ b, blk v = some b → ¬ D b ∧ ∀ o, I' b o = I b o) ∨
      (∃ v, bs' id = some v ∧ ObjOk bs' I' w' v ob ∧ ∀ b, blk v = some b → B ≤ b ∨ b ∈ L))
    (hsep : ∀ id id' ob ob' v v' b, getO st' id = some ob → getO st' id' = some ob' → id ≠ id' → bs' id = some v → bs' id' = some v' → blk v = some b → blk v' ≠ some b)
    (hik : ∀ b o, b < B → b ∉ L → I' b o = I b o := by intros; rfl) : ORel G B L w0 I0 st' nx' bs' I' w' where
  kept := h.kept.trans hk
  ik := fun b o hb hl => (hik b o hb hl).trans (h.ik b o hb hl)
  base := h.base
  imm := himm
  obj := fun id ob hob => by
    rcases hobj id ob hob with ⟨v, h1, h2, h3⟩ | h1
    · obtain ⟨v2, e1, e2, e3⟩ := h.obj id ob h1
      rw [h2] at e1; cases e1
      refine ⟨v, hbs _ _ h2, ?_, e3⟩
      have e4 := e2.kept (w' := w') (fun b hb => hD b (e2.lt hb) (h3 b hb).1) (fun b hb => e2.lt hb)
      exact e4.mono hbs hI (fun b hb => (h3 b hb).2)
    · exact h1
  sep := hsep
  nxt := hnx
  glob := fun g x hg => by
    obtain ⟨cs, h1, h2⟩ := h.glob g x hg
    exact ⟨cs, h1.mono hI, h2.mono hI⟩

/-- Nothing but a draw. -/
theorem ORel.heap (h : ORel G B L w0 I0 st nx bs I w) (hh : w'.heap = w.heap) (ho : w'.os = w.os) (ht : w'.tape = w.tape) (hp : w'.output = w.output) : ORel G B L w0 I0 st nx bs I w' := by
  refine h.change (fun _ => False) ⟨ho, ht, hp, by rw [hh]; exact Nat.le_refl _, fun k _ _ => by rw [hh]⟩ (fun k _ _ => by rw [hh]) (Bs.le_refl _) h.nxt (Im.le_refl _) ?_ ?_ h.sep
  · intro b o v hv
    have := h.imm b o v hv
    simp only [World.cell?, hh] at this ⊢
    exact this
  · intro id ob hob
    obtain ⟨v, h1, _, _⟩ := h.obj id ob hob
    exact .inl ⟨v, hob, h1, fun _ _ => ⟨not_false, fun _ => rfl⟩⟩

theorem ORel.drew (h : ORel G B L w0 I0 st nx bs I w) : ORel G B L w0 I0 st nx bs I w.drew := h.heap rfl rfl rfl rfl

/-- Less is known. -/
theorem ORel.forget (h : ORel G B L w0 I0 st nx bs I w) (hst : ∀ id ob, getO st' id = some ob → getO st id = some ob) (hnx : nx ≤ nx') : ORel G B L w0 I0 st' nx' bs I w where
  kept := h.kept
  ik := h.ik
  base := h.base
  imm := h.imm
  obj := fun id ob hob => h.obj id ob (hst id ob hob)
  sep := fun id id' ob ob' v v' b h1 h2 => h.sep id id' ob ob' v v' b (hst _ _ h1) (hst _ _ h2)
  nxt := fun id hid => h.nxt id (Nat.le_trans hnx hid)
  glob := h.glob

/-- A new block, an object of its own. -/
theorem ORel.new (h : ORel G B L w0 I0 st nx bs I w) (ob : PObj) (v : Value) (o : Obj) (hv : ∀ b, blk v = some b → b = w.heap.size)
    (hok : ObjOk (updB bs nx v) I (w.alloc o) v ob) : ORel G B L w0 I0 ((nx, ob) :: st) (nx + 1) (updB bs nx v) I (w.alloc o) := by
  have hB : B ≤ w.heap.size := Nat.le_trans h.base h.kept.size
  refine h.change (fun _ => False) ⟨rfl, rfl, rfl, by simp, fun k hk _ => heap_alloc_old w o (by omega)⟩ (fun k hk _ => heap_alloc_old w o hk) (h.le_upd v) ?_ (Im.le_refl _) ?_ ?_ ?_
  · intro id hid
    simp only [updB]; rw [if_neg (by omega)]; exact h.nxt id (by omega)
  · intro b of u hu
    have h1 := h.imm b of u hu
    rw [World.cell?_alloc_lt w o _ (World.block_lt_of_cell? w _ h1)]; exact h1
  · intro id ob' hob
    simp only [getO] at hob
    cases hn : Nat.beq nx id with
    | true =>
      simp [hn] at hob; subst hob
      have : nx = id := by simpa [Nat.beq_eq] using hn
      subst this
      exact .inr ⟨v, by simp [updB], hok, fun b hb => .inl (by rw [hv b hb]; exact hB)⟩
    | false =>
      simp [hn] at hob
      obtain ⟨v', h1, _, _⟩ := h.obj id ob' hob
      exact .inl ⟨v', hob, h1, fun _ _ => ⟨not_false, fun _ => rfl⟩⟩
  · intro id id' ob1 ob2 v1 v2 b h1 h2 hne e1 e2 hb
    simp only [getO] at h1 h2
    have old : ∀ {i : Nat} {x : PObj} {u : Value} {c : Nat}, Nat.beq nx i = false → (bif Nat.beq nx i then some ob else getO st i) = some x → updB bs nx v i = some u → blk u = some c → c < w.heap.size ∧ getO st i = some x ∧ bs i = some u := by
      intro i x u c hn hx hu hc
      simp [hn] at hx
      have hni : i ≠ nx := by intro e; subst e; simp at hn
      simp [updB, hni] at hu
      obtain ⟨u', k1, k2, _⟩ := h.obj i x hx
      rw [hu] at k1; cases k1
      exact ⟨k2.lt hc, hx, hu⟩
    cases n1 : Nat.beq nx id with
    | true =>
      have q1 : nx = id := by simpa [Nat.beq_eq] using n1
      cases n2 : Nat.beq nx id' with
      | true =>
        have q2 : nx = id' := by simpa [Nat.beq_eq] using n2
        exact absurd (q1.symm.trans q2) hne
      | false =>
        intro hb'
        subst q1
        simp [updB] at e1; subst e1
        have := (old n2 h2 e2 hb').1
        have := hv b hb
        omega
    | false =>
      obtain ⟨p1, p2, p3⟩ := old n1 h1 e1 hb
      cases n2 : Nat.beq nx id' with
      | true =>
        have q2 : nx = id' := by simpa [Nat.beq_eq] using n2
        intro hb'
        subst q2
        simp [updB] at e2; subst e2
        have := hv b hb'
        omega
      | false =>
        intro hb'
        obtain ⟨r1, r2, r3⟩ := old n2 h2 e2 hb'
        exact h.sep id id' ob1 ob2 v1 v2 b p2 r2 hne p3 r3 hb hb'

theorem ORel.newBox (h : ORel G B L w0 I0 st nx bs I w) (t : PV) (vs : List Value) (T : TypeId) (hc : PC bs I t vs) :
    ORel G B L w0 I0 ((nx, .box false vs.length t) :: st) (nx + 1) (updB bs nx (.pointer (some ⟨w.heap.size, 0, none⟩))) I (w.alloc (.cells ⟨vs⟩ T)) := by
  refine h.new (.box false vs.length t) _ _ (by intro b hb; simpa [blk] using hb.symm) ?_
  exact ⟨w.heap.size, vs, T, rfl, heap_alloc_new w _, hc.mono (h.le_upd _) (Im.le_refl _), rfl, (fun _ o => Im.none_of_size h.imm (Nat.le_refl _) o), (fun hf => by cases hf)⟩

/-- A new row, full of elements. -/
theorem ORel.newRow (h : ORel G B L w0 I0 st nx bs I w) (e sz : Nat) (xs : List IV) (cs : List Value) (hc : RC I (.arr sz xs) cs) (hm : xs.length ≤ maxLen) :
    ORel G B L w0 I0 ((nx, .row e sz xs 0) :: st) (nx + 1) (updB bs nx (.slice (some ⟨w.heap.size, 0, none⟩) xs.length xs.length)) I (w.alloc (.cells ⟨cs⟩ e)) := by
  have hl := hc.arr_length
  refine h.new (.row e sz xs 0) _ _ (by intro b hb; simpa [blk] using hb.symm) ?_
  refine ⟨cs, ⟨by simp [hl], .inr ⟨w.heap.size, xs.length, ⟨cs⟩, rfl, Nat.zero_le _, heap_alloc_new w _, Nat.le_refl _, hm, by simp [hl], by simp [← hl]⟩⟩, hc, ?_⟩
  intro b hb
  have : b = w.heap.size := by simpa [Value.ownBlock] using hb.symm
  subst this
  exact ⟨(fun _ o => Im.none_of_size h.imm (Nat.le_refl _) o), (fun o u hu => by rw [Im.none_of_size h.imm (Nat.le_refl _) o] at hu; cases hu), (fun hf => by cases hf)⟩

theorem ORel.free (h : ORel G B L w0 I0 st nx bs I w) {id : Nat} {ob : PObj} {v : Value} (ho : getO st id = some ob) (hb : bs id = some v) : ObjOk bs I w v ob := by
  obtain ⟨u, h1, h2, _⟩ := h.obj id ob ho
  rw [hb] at h1; cases h1; exact h2

/-- One object is written: nothing that never turns lies where it was written. -/
theorem ORel.write (h : ORel G B L w0 I0 st nx bs I w) {id : Nat} {ob ob' : PObj} {v : Value} {g : Nat} (ho : getO st id = some ob) (hb : bs id = some v) (hg : blk v = some g)
    (cs : Array Value) (himm : ∀ o u, I g o = some u → (w.setRow g cs).cell? ⟨g, o, none⟩ = some u) (hok : ObjOk bs I (w.setRow g cs) v ob') :
    ORel G B L w0 I0 (setO st id ob') nx bs I (w.setRow g cs) := by
  obtain ⟨v', e1, e2, e3⟩ := h.obj id ob ho
  rw [hb] at e1; cases e1
  have hsame : ∀ i x, getO (setO st id ob') i = some x → (i = id ∧ x = ob') ∨ (i ≠ id ∧ getO st i = some x) := by
    intro i x hx
    rw [getO_setO] at hx
    by_cases q : id = i
    · subst q; simp [ho] at hx; exact .inl ⟨rfl, hx.symm⟩
    · rw [if_neg q] at hx; exact .inr ⟨fun e => q e.symm, hx⟩
  have hlive : ∀ i x, getO (setO st id ob') i = some x → ∃ y, getO st i = some y := by
    intro i x hx
    rcases hsame i x hx with ⟨rfl, _⟩ | ⟨_, k⟩
    · exact ⟨ob, ho⟩
    · exact ⟨x, k⟩
  refine h.change (fun k => k = g) ⟨rfl, rfl, rfl, by simp, fun k hk hl => setRow_other w g k cs ?_⟩ (fun k _ hk => setRow_other w g k cs hk) (Bs.le_refl _) h.nxt (Im.le_refl _) ?_ ?_ ?_
  · intro e; subst e
    rcases e3 k hg with h1 | h1
    · omega
    · exact hl h1
  · intro b o u hu
    by_cases q : b = g
    · subst q; exact himm o u hu
    · rw [cell_setRow_other w g cs _ q]; exact h.imm b o u hu
  · intro i x hx
    rcases hsame i x hx with ⟨rfl, rfl⟩ | ⟨hne, k⟩
    · exact .inr ⟨v, hb, hok, e3⟩
    · obtain ⟨u, k1, _, _⟩ := h.obj i x k
      refine .inl ⟨u, k, k1, fun b hbb => ⟨fun e => ?_, fun _ => rfl⟩⟩
      subst e
      exact h.sep i id x ob u v b k ho hne k1 hb hbb hg
  · intro i i' x x' u u' b h1 h2 hne k1 k2 hbb
    obtain ⟨y, hy⟩ := hlive i x h1
    obtain ⟨y', hy'⟩ := hlive i' x' h2
    exact h.sep i i' y y' u u' b hy hy' hne k1 k2 hbb

theorem ORel.setBox (h : ORel G B L w0 I0 st nx bs I w) {id : Nat} {t t' : PV} {n g : Nat} (ho : getO st id = some (.box false n t)) (hb : bs id = some (.pointer (some ⟨g, 0, none⟩)))
    (vs : List Value) (hc : PC bs I t' vs) (hn : vs.length = n) : ORel G B L w0 I0 (setO st id (.box false n t')) nx bs I (w.setRow g ⟨vs⟩) := by
  have hok := h.free ho hb
  obtain ⟨b, old, T, e, h1, h2, _, h3, _⟩ := hok
  simp only [Value.pointer.injEq, Option.some.injEq, Addr.mk.injEq] at e
  obtain ⟨rfl, _, _⟩ := e
  refine h.write ho hb rfl ⟨vs⟩ (fun o u hu => by rw [h3 rfl o] at hu; cases hu) ?_
  exact ⟨g, vs, T, rfl, setRow_heap w g _ _ T _ h1, hc, hn, h3, (fun hf => by cases hf)⟩

/-- Cells of an object's block never turn any more. -/
def frzI (I : Im) (g : Nat) (cs : List Value) : Im := fun b o => if b = g ∧ o < cs.length then cs[o]? else I b o

theorem ownsRow_cell {e sz n : Nat} {v : Value} {cs : List Value} (h : w.ownsRow 0 e sz v n cs) {g : Nat} (hg : v.ownBlock = some g) {j : Nat} {u : Value} (hu : cs[j]? = some u) : w.cell? ⟨g, j, none⟩ = some u := by
  have := h.cells hg j u hu
  rwa [show (⟨g, 0, none⟩ : Addr).add j = ⟨g, j, none⟩ by unfold Addr.add; split <;> simp_all] at this

/-- Cells that lie in an object's block are known not to turn. -/
theorem ORel.freeze (h : ORel G B L w0 I0 st nx bs I w) {id : Nat} {ob ob' : PObj} {v : Value} {g : Nat} (ho : getO st id = some ob) (hb : bs id = some v) (hg : blk v = some g)
    (cs : List Value) (hcs : ∀ j u, cs[j]? = some u → w.cell? ⟨g, j, none⟩ = some u) (hold : ∀ o u, I g o = some u → o < cs.length ∧ cs[o]? = some u)
    (hok : ObjOk bs (frzI I g cs) w v ob') : I.le (frzI I g cs) ∧ ORel G B L w0 I0 (setO st id ob') nx bs (frzI I g cs) w := by
  have hI : I.le (frzI I g cs) := by
    intro b o u hu
    simp only [frzI]
    split
    · rename_i q
      obtain ⟨rfl, _⟩ := q
      exact (hold o u hu).2
    · exact hu
  refine ⟨hI, ?_⟩
  obtain ⟨v', e1, e2, e3⟩ := h.obj id ob ho
  rw [hb] at e1; cases e1
  have hsame : ∀ i x, getO (setO st id ob') i = some x → (i = id ∧ x = ob') ∨ (i ≠ id ∧ getO st i = some x) := by
    intro i x hx
    rw [getO_setO] at hx
    by_cases q : id = i
    · subst q; simp [ho] at hx; exact .inl ⟨rfl, hx.symm⟩
    · rw [if_neg q] at hx; exact .inr ⟨fun e => q e.symm, hx⟩
  have hlive : ∀ i x, getO (setO st id ob') i = some x → ∃ y, getO st i = some y := by
    intro i x hx
    rcases hsame i x hx with ⟨rfl, _⟩ | ⟨_, k⟩
    · exact ⟨ob, ho⟩
    · exact ⟨x, k⟩
  refine h.change (hik := fun b o hbB hbL => ?hik) (fun _ => False) (Kept.refl _ _ _) (fun k _ _ => rfl) (Bs.le_refl _) h.nxt hI ?_ ?_ ?_
  · intro b o u hu
    simp only [frzI] at hu
    split at hu
    · rename_i q
      obtain ⟨rfl, _⟩ := q
      exact hcs o u hu
    · exact h.imm b o u hu
  · intro i x hx
    rcases hsame i x hx with ⟨rfl, rfl⟩ | ⟨hne, k⟩
    · exact .inr ⟨v, hb, hok, e3⟩
    · obtain ⟨u, k1, _, _⟩ := h.obj i x k
      refine .inl ⟨u, k, k1, fun b hbb => ⟨not_false, fun o => ?_⟩⟩
      simp only [frzI]
      rw [if_neg]
      rintro ⟨rfl, _⟩
      exact h.sep i id x ob u v b k ho hne k1 hb hbb hg
  · intro i i' x x' u u' b h1 h2 hne k1 k2 hbb
    obtain ⟨y, hy⟩ := hlive i x h1
    obtain ⟨y', hy'⟩ := hlive i' x' h2
    exact h.sep i i' y y' u u' b hy hy' hne k1 k2 hbb
  case hik =>
    simp only [frzI]
    rw [if_neg]
    rintro ⟨rfl, _⟩
    rcases e3 b hg with h1 | h1
    · omega
    · exact hbL h1

theorem frzI_at (I : Im) (g : Nat) (cs : List Value) : At (frzI I g cs) g 0 cs := fun j hj => by simp [frzI, hj]

theorem ORel.frzRow (h : ORel G B L w0 I0 st nx bs I w) {id e sz m : Nat} {xs : List IV} (ho : getO st id = some (.row e sz xs m)) :
    ∃ I', I.le I' ∧ ORel G B L w0 I0 (setO st id (.row e sz xs 2)) nx bs I' w := by
  obtain ⟨v, hb, hok, hcl⟩ := h.obj id _ ho
  have hok' := hok
  obtain ⟨cs, h1, h2, h3⟩ := hok
  cases hv : v.ownBlock with
  | some g =>
    obtain ⟨_, k1, _⟩ := h3 g hv
    have hold : ∀ o u, I g o = some u → o < cs.length ∧ cs[o]? = some u := fun o u hu => by
      have q2 := k1 o u hu
      have q3 := ownsRow_cell h1 hv (List.getElem?_eq_getElem q2)
      have q4 := h.imm g o u hu
      rw [q3] at q4
      exact ⟨q2, by rw [List.getElem?_eq_getElem q2]; exact q4⟩
    have hI : I.le (frzI I g cs) := by
      intro b o u hu
      simp only [frzI]
      split
      · rename_i q
        obtain ⟨rfl, _⟩ := q
        exact (hold o u hu).2
      · exact hu
    refine ⟨frzI I g cs, h.freeze ho hb (blk_ownBlock hv) cs (fun j u hu => ownsRow_cell h1 hv hu) hold ?_⟩
    refine ⟨cs, h1, h2.mono hI, fun b hbb => ?_⟩
    rw [hv] at hbb; cases hbb
    refine ⟨(fun hm => by cases hm), fun o u hu => ?_, fun _ => frzI_at I g cs⟩
    simp only [frzI] at hu
    split at hu
    · rename_i q; exact q.2
    · exact (hold o u hu).1
  | none =>
    refine ⟨I, Im.le_refl _, ?_⟩
    have hbn : blk v = none := by
      rcases h1.2 with ⟨rfl, _⟩ | ⟨g, cap, cur, rfl, _⟩
      · rfl
      · simp [Value.ownBlock] at hv
    have hsame : ∀ i x, getO (setO st id (.row e sz xs 2)) i = some x → (i = id ∧ x = .row e sz xs 2) ∨ (i ≠ id ∧ getO st i = some x) := by
      intro i x hx
      rw [getO_setO] at hx
      by_cases q : id = i
      · subst q; simp [ho] at hx; exact .inl ⟨rfl, hx.symm⟩
      · rw [if_neg q] at hx; exact .inr ⟨fun e => q e.symm, hx⟩
    have hlive : ∀ i x, getO (setO st id (.row e sz xs 2)) i = some x → ∃ y, getO st i = some y := by
      intro i x hx
      rcases hsame i x hx with ⟨rfl, _⟩ | ⟨_, k⟩
      · exact ⟨_, ho⟩
      · exact ⟨x, k⟩
    refine h.change (fun _ => False) (Kept.refl _ _ _) (fun k _ _ => rfl) (Bs.le_refl _) h.nxt (Im.le_refl _) h.imm ?_ ?_
    · intro i x hx
      rcases hsame i x hx with ⟨rfl, rfl⟩ | ⟨hne, k⟩
      · exact .inr ⟨v, hb, ⟨cs, h1, h2, fun b hbb => by rw [hv] at hbb; cases hbb⟩, hcl⟩
      · obtain ⟨u, k1, _, _⟩ := h.obj i x k
        exact .inl ⟨u, k, k1, fun b hbb => ⟨not_false, fun _ => rfl⟩⟩
    · intro i i' x x' u u' b q1 q2 hne q3 q4 hbb
      obtain ⟨y, hy⟩ := hlive i x q1
      obtain ⟨y', hy'⟩ := hlive i' x' q2
      exact h.sep i i' y y' u u' b hy hy' hne q3 q4 hbb

def appM : Nat → Nat
  | 0 => 0
  | _ => 1

/-- An append to a row of the call's own: onto the row itself, or onto a new one. -/
theorem run_append_own2 {P : Program} (t ty e : TypeId) (i : TypeInfo) (z : Value) (size bytes : Nat) (ht : P.underlying t = some (.slice e)) (hi : P.info? e = some i) (hz : i.zero = some z)
    (hsize : i.size = size) (hby : i.bytes = bytes) (hzs : z.cells.size = size) (hsz : 0 < size)
    (v : Value) (n : Nat) (xs : List Value) (hown : w.ownsRow 0 e size v n xs)
    (a : Addr) (m c : Nat) (news : List Value) (hl : news.length = m * size) (hnews : ∀ j u, news[j]? = some u → w.cell? (a.add j) = some u) (h1 : ∀ u ∈ news, u.oneCell' = true)
    (h63 : n + m ≤ maxLen) (hbytes : (n + m) * bytes ≤ 140737488355328) :
    ∃ v' w', (Builtin.append_ #[t, t] ty #[v, .slice (some a) m c]).run P w = .ok v' w' ∧ w'.ownsRow 0 e size v' (n + m) (xs ++ news) ∧ w.grownBy w' v.ownBlock ∧
      (v'.ownBlock = v.ownBlock ∨ v'.ownBlock = some w.heap.size ∧ ∀ k, k < w.heap.size → w'.heap[k]? = w.heap[k]?) := by
  rcases hown.2 with ⟨rfl, rfl⟩ | ⟨g, cap, cur, rfl, hbg, hg, hnc, hcm, hcs, htake⟩
  · have hx : xs = [] := List.eq_nil_of_length_eq_zero (by simpa using hown.1)
    subst hx
    obtain ⟨v', w', k1, k2, k3, k4⟩ := run_append_own (P := P) w w.heap.size t ty e i z size bytes ht hi hz hsize hby hzs hsz _ 0 [] (World.ownsRow_nil w _ e size) a m c news hl hnews h1 h63 hbytes (Nat.le_refl _)
    obtain ⟨v2, w2, q1, q2, q3, q4⟩ := run_append_own (P := P) w 0 t ty e i z size bytes ht hi hz hsize hby hzs hsz _ 0 [] (World.ownsRow_nil w _ e size) a m c news hl hnews h1 h63 hbytes (Nat.zero_le _)
    rw [k1] at q1
    simp only [Result.ok.injEq] at q1
    obtain ⟨rfl, rfl⟩ := q1
    refine ⟨v', w', k1, q2, k3, ?_⟩
    have hsame : ∀ k, k < w.heap.size → w'.heap[k]? = w.heap[k]? := fun k hk => k3.block k hk (by simp [Value.ownBlock])
    rcases k2.2 with ⟨rfl, _⟩ | ⟨g, cap, cur, rfl, hg, _⟩
    · exact .inl rfl
    · refine .inr ⟨?_, hsame⟩
      by_cases hm : m = 0
      · subst hm
        have hn : news = [] := List.eq_nil_of_length_eq_zero (by simpa using hl)
        subst hn
        have := (k4.2 ⟨rfl, rfl⟩)
        cases this
      · have hr := run_append_nil (P := P) w t ty e i z ht hi hz a m c news (by rw [hsize]; exact hl) hnews (by omega) (by simp only [maxLen] at h63; omega) (by rw [hby]; have hb := hbytes; simp only [Nat.zero_add] at hb; omega)
        rw [hr] at k1
        simp only [Result.ok.injEq, Value.slice.injEq, Option.some.injEq, Addr.mk.injEq] at k1
        simp [Value.ownBlock, ← k1.1.1.1]
  · obtain ⟨v', w', k1, k2, k3, k4⟩ := run_append_own (P := P) w 0 t ty e i z size bytes ht hi hz hsize hby hzs hsz _ n xs hown a m c news hl hnews h1 h63 hbytes (Nat.zero_le _)
    refine ⟨v', w', k1, k2, k3, ?_⟩
    by_cases hroom : n + m ≤ cap
    · have hfit : n * i.size + news.length ≤ cur.size := by rw [hl, hcs, hsize, ← Nat.add_mul]; exact Nat.mul_le_mul_right _ hroom
      have hr := run_append_room (P := P) w t ty e i ht hi g n cap cur hg a m c news (by rw [hsize]; exact hl) hnews h1 hroom hfit
      rw [hr] at k1
      simp only [Result.ok.injEq] at k1
      exact .inl (by rw [← k1.1]; rfl)
    · have holds : ∀ j u, xs[j]? = some u → w.cell? ((⟨g, 0, none⟩ : Addr).add j) = some u := hown.cells (g := g) rfl
      have hr := run_append_grow (P := P) w t ty e i z ht hi hz ⟨g, 0, none⟩ n cap xs (by rw [hsize]; exact hown.1) holds a m c news (by rw [hsize]; exact hl) hnews (by omega) (by simp only [maxLen] at h63; omega) (growslice_fits (by omega) (by rw [hby]; exact hbytes))
      rw [hr] at k1
      simp only [Result.ok.injEq] at k1
      refine .inr ⟨by rw [← k1.1]; rfl, fun k hk => ?_⟩
      rw [← k1.2]; exact heap_alloc_old w.drew _ hk

/-- The row that an append has made, under a new name; the elder name is let go. -/
theorem ORel.app (h : ORel G B L w0 I0 st nx bs I w) {id e sz m : Nat} {xs ys : List IV} {v v' : Value} {cs news : List Value} (ho : getO st id = some (.row e sz xs m)) (hb : bs id = some v)
    (hcs : w.ownsRow 0 e sz v xs.length cs) (hc : RC I (.arr sz xs) cs) (hn : RC I (.arr sz ys) news)
    (hown : w'.ownsRow 0 e sz v' (xs.length + ys.length) (cs ++ news)) (hg : w.grownBy w' v.ownBlock)
    (hblk : v'.ownBlock = v.ownBlock ∨ v'.ownBlock = some w.heap.size ∧ ∀ k, k < w.heap.size → w'.heap[k]? = w.heap[k]?) :
    ORel G B L w0 I0 ((nx, .row e sz (xs ++ ys) (appM m)) :: delO st id) (nx + 1) (updB bs nx v') I w' := by
  obtain ⟨v2, q1, q2, hcl⟩ := h.obj id _ ho
  rw [hb] at q1; cases q1
  obtain ⟨cs2, r1, r2, r3⟩ := q2
  have hcs2 : cs2.length = cs.length := by rw [r1.1, hcs.1]
  have hB : B ≤ w.heap.size := Nat.le_trans h.base h.kept.size
  have hgs : ∀ g, v.ownBlock = some g → g < w.heap.size := fun g hgv => (hcs.lt g hgv).2
  have hunch : ∀ k, k < w.heap.size → v.ownBlock ≠ some k → w'.heap[k]? = w.heap[k]? := fun k hk hne => hg.block k hk (fun e => hne e.symm)
  have hvo : ∀ b, blk v = some b → v.ownBlock = some b := by
    intro b hbb
    rcases hcs.2 with ⟨rfl, _⟩ | ⟨g, cap, cur, rfl, _⟩
    · simp [blk] at hbb
    · simpa [Value.ownBlock, blk] using hbb
  have hvo' : ∀ b, blk v' = some b → v'.ownBlock = some b := by
    intro b hbb
    rcases hown.2 with ⟨rfl, _⟩ | ⟨g, cap, cur, rfl, _⟩
    · simp [blk] at hbb
    · simpa [Value.ownBlock, blk] using hbb
  have old : ∀ {i : Nat} {x : PObj}, getO (delO st id) i = some x → i ≠ id ∧ getO st i = some x := by
    intro i x hx
    rw [getO_delO] at hx
    by_cases q : id = i
    · rw [if_pos q] at hx; cases hx
    · rw [if_neg q] at hx; exact ⟨fun e => q e.symm, hx⟩
  have oldb : ∀ {i : Nat} {x : PObj}, getO (delO st id) i = some x → ∃ u, bs i = some u ∧ i ≠ nx ∧ (∀ b, blk u = some b → b < w.heap.size ∧ v.ownBlock ≠ some b) := by
    intro i x hx
    obtain ⟨hne, hx⟩ := old hx
    obtain ⟨u, k1, k2, k3⟩ := h.obj i x hx
    refine ⟨u, k1, ?_, fun b hbb => ⟨k2.lt hbb, fun e => ?_⟩⟩
    · intro e; subst e; rw [h.nxt _ (Nat.le_refl _)] at k1; cases k1
    · exact h.sep i id _ _ u v b hx ho hne k1 hb hbb (blk_ownBlock e)
  have hnewb : ∀ b, v'.ownBlock = some b → v.ownBlock = some b ∨ b = w.heap.size := by
    intro b hbb
    rcases hblk with e | ⟨e, _⟩
    · exact .inl (e ▸ hbb)
    · rw [e] at hbb; exact .inr (by simpa using hbb.symm)
  refine h.change (fun k => v.ownBlock = some k) ⟨hg.os, hg.tape, hg.output, hg.size, fun k hk hl => ?_⟩ hunch (h.le_upd v') ?_ (Im.le_refl _) ?_ ?_ ?_
  · refine hunch k (by omega) fun e => ?_
    rcases hcl k (blk_ownBlock e) with c | c
    · omega
    · exact hl c
  · intro i hi
    simp only [updB]; rw [if_neg (by omega)]; exact h.nxt i (by omega)
  · intro b o u hu
    have h0 := h.imm b o u hu
    have hlt := World.block_lt_of_cell? w _ h0
    by_cases q : v.ownBlock = some b
    · rcases hblk with e | ⟨_, e⟩
      · have ho1 := (r3 b q).2.1 o u hu
        rw [hcs2] at ho1
        have h2 := ownsRow_cell hcs q (List.getElem?_eq_getElem ho1)
        rw [h0] at h2
        refine ownsRow_cell hown (e.trans q) (j := o) ?_
        rw [List.getElem?_append_left ho1, List.getElem?_eq_getElem ho1]
        exact h2.symm
      · rw [World.cell?_of_block (w := w) (e b hlt)]; exact h0
    · rw [World.cell?_of_block (w := w) (hunch b hlt q)]; exact h0
  · intro i x hx
    simp only [getO] at hx
    cases hn0 : Nat.beq nx i with
    | true =>
      have q : nx = i := by simpa [Nat.beq_eq] using hn0
      subst q
      simp only [hn0, cond_true, Option.some.injEq] at hx
      subst hx
      refine .inr ⟨v', by simp [updB], ⟨cs ++ news, ?_, ?_, ?_⟩, ?_⟩
      · simpa using hown
      · exact hc.arr_append hn
      · intro b hbb
        refine ⟨fun hm o => ?_, fun o u hu => ?_, fun hm => ?_⟩
        · have hm0 : m = 0 := by cases m with
            | zero => rfl
            | succ m => simp [appM] at hm
          rcases hnewb b hbb with e | e
          · exact (r3 b e).1 hm0 o
          · rw [e]; exact Im.none_of_size h.imm (Nat.le_refl _) o
        · rcases hnewb b hbb with e | e
          · have := (r3 b e).2.1 o u hu
            simp; omega
          · rw [e, Im.none_of_size h.imm (Nat.le_refl _) o] at hu; cases hu
        · cases m <;> simp [appM] at hm
      · intro b hbb
        rcases hnewb b (hvo' b hbb) with e | e
        · exact hcl b (blk_ownBlock e)
        · exact .inl (by omega)
    | false =>
      simp only [hn0, cond_false] at hx
      obtain ⟨u, k1, _, k2⟩ := oldb hx
      exact .inl ⟨u, (old hx).2, k1, fun b hbb => ⟨(k2 b hbb).2, fun _ => rfl⟩⟩
  · intro i i' x x' u u' b h1 h2 hne e1 e2 hbb
    simp only [getO] at h1 h2
    cases n1 : Nat.beq nx i with
    | true =>
      have q1 : nx = i := by simpa [Nat.beq_eq] using n1
      cases n2 : Nat.beq nx i' with
      | true => exact absurd (q1.symm.trans (by simpa [Nat.beq_eq] using n2)) hne
      | false =>
        simp only [n2, cond_false] at h2
        obtain ⟨u2, k1, k0, k2⟩ := oldb h2
        subst q1
        simp [updB] at e1; subst e1
        simp [updB, k0] at e2
        rw [k1] at e2; cases e2
        intro hb2
        rcases hnewb b (hvo' b hbb) with e | e
        · exact (k2 b hb2).2 e
        · have := (k2 b hb2).1; omega
    | false =>
      simp only [n1, cond_false] at h1
      obtain ⟨u1, k1, k0, k2⟩ := oldb h1
      simp [updB, k0] at e1
      rw [k1] at e1; cases e1
      cases n2 : Nat.beq nx i' with
      | true =>
        have q2 : nx = i' := by simpa [Nat.beq_eq] using n2
        subst q2
        simp [updB] at e2; subst e2
        intro hb2
        rcases hnewb b (hvo' b hb2) with e | e
        · exact (k2 b hbb).2 e
        · have := (k2 b hbb).1; omega
      | false =>
        simp only [n2, cond_false] at h2
        obtain ⟨u2, m1, m0, m2⟩ := oldb h2
        simp [updB, m0] at e2
        rw [m1] at e2; cases e2
        exact h.sep i i' x x' u u' b (old h1).2 (old h2).2 hne k1 m1 hbb

theorem ORel.frzBox (h : ORel G B L w0 I0 st nx bs I w) {id n : Nat} {t : PV} {fz : Bool} (ho : getO st id = some (.box fz n t)) :
    ∃ I', I.le I' ∧ ORel G B L w0 I0 (setO st id (.box true n t)) nx bs I' w := by
  obtain ⟨v, hb, hok, hcl⟩ := h.obj id _ ho
  obtain ⟨g, vs, T, rfl, h1, h2, hn, h3, h4⟩ := hok
  have hold : ∀ o u, I g o = some u → o < vs.length ∧ vs[o]? = some u := fun o u hu => by
    have := h.imm g o u hu
    rw [cell_of_row w g o _ T _ h1] at this
    simp at this
    exact ⟨(List.getElem?_eq_some_iff.1 this).1, this⟩
  have hI : I.le (frzI I g vs) := by
    intro b o u hu
    simp only [frzI]
    split
    · rename_i q
      obtain ⟨rfl, _⟩ := q
      exact (hold o u hu).2
    · exact hu
  refine ⟨frzI I g vs, h.freeze ho hb rfl vs (fun j u hu => ?_) hold ?_⟩
  · rw [cell_of_row w g j _ T _ h1]; simpa using hu
  · exact ⟨g, vs, T, rfl, h1, h2.mono (Bs.le_refl _) hI, hn, (fun hf => by cases hf), fun _ => frzI_at I g vs⟩

end
end Go.Eng
end

section
namespace Go.Eng
open Go Go.RowKit

/-! ### Types -/
inductive TD where
  | bool | int (k : IntKind) | str | ptr | sl (e esz ebytes : Nat) | arr (n e esz : Nat) | st (fs : List (Nat × Nat)) | ifc | oth
  deriving Inhabited

def TD.isAgg : TD → Bool
  | .arr .. => true
  | .st _ => true
  | _ => false

structure TyI where
  td : TD
  size : Nat
  z : IV
  deriving Inhabited

mutual
/-- The cells of a tree without memory. -/
def constI : IV → Option (List Value)
  | .v x => bif x.oneCell' then some [x] else none
  | .st fs => constF fs
  | .arr sz xs => constA sz xs
  | _ => none
def constF : List (Nat × IV) → Option (List Value)
  | [] => some []
  | (n, x) :: fs => match constI x, constF fs with
    | some c, some cs => bif Nat.beq c.length n then some (c ++ cs) else none
    | _, _ => none
def constA (sz : Nat) : List IV → Option (List Value)
  | [] => some []
  | x :: xs => match constI x, constA sz xs with
    | some c, some cs => bif Nat.beq c.length sz then some (c ++ cs) else none
    | _, _ => none
end

mutual
theorem constI_ok {I : Im} : ∀ {x : IV} {cs : List Value}, constI x = some cs → RC I x cs
  | .v x, cs, h => by
    unfold constI at h
    cases hx : x.oneCell' with
    | true => simp [hx] at h; subst h; exact .v x hx
    | false => simp [hx] at h
  | .st fs, cs, h => constF_ok (by simpa [constI] using h)
  | .arr sz xs, cs, h => constA_ok (by simpa [constI] using h)
  | .sl .., _, h => by simp [constI] at h
  | .pim .., _, h => by simp [constI] at h
  | .ifc .., _, h => by simp [constI] at h
  | .fn .., _, h => by simp [constI] at h
  | .nn .., _, h => by simp [constI] at h
theorem constF_ok {I : Im} : ∀ {fs : List (Nat × IV)} {cs : List Value}, constF fs = some cs → RC I (.st fs) cs
  | [], cs, h => by simp [constF] at h; subst h; exact .stN
  | (n, x) :: fs, cs, h => by
    simp only [constF] at h
    split at h
    · rename_i c cs' h1 h2
      cases hb : Nat.beq c.length n with
      | true => simp [hb] at h; subst h; exact .stC n x fs c cs' (constI_ok h1) (Nat.eq_of_beq_eq_true hb) (constF_ok h2)
      | false => simp [hb] at h
    · cases h
theorem constA_ok {I : Im} {sz : Nat} : ∀ {xs : List IV} {cs : List Value}, constA sz xs = some cs → RC I (.arr sz xs) cs
  | [], cs, h => by simp [constA] at h; subst h; exact .arrN sz
  | x :: xs, cs, h => by
    simp only [constA] at h
    split at h
    · rename_i c cs' h1 h2
      cases hb : Nat.beq c.length sz with
      | true => simp [hb] at h; subst h; exact .arrC sz x xs c cs' (constI_ok h1) (Nat.eq_of_beq_eq_true hb) (constA_ok h2)
      | false => simp [hb] at h
    · cases h
end

def tdOf (P : Program) (t : TypeId) : Option TD :=
  match P.underlying t with
  | some .bool => some .bool
  | some (.int k) => some (.int k)
  | some .string => some .str
  | some (.pointer _) => some .ptr
  | some (.slice e) => some (.sl e (P.cellsOf e) (P.bytesOf e))
  | some (.array n e) => some (.arr n e (P.cellsOf e))
  | some (.struct fs) => some (.st (fs.toList.map fun f => (f.offset, P.cellsOf f.type)))
  | some (.interface _) => some .ifc
  | some _ => some .oth
  | none => none

def zeroC (P : Program) (t : TypeId) : Option (List Value) := ((P.info? t).bind (·.zero)).map (·.cells.toList)

structure TyOk (P : Program) (t : TypeId) (i : TyI) : Prop where
  td : tdOf P t = some i.td
  size : P.cellsOf t = i.size
  z : zeroC P t = constI i.z
  nz : (zeroC P t).isSome = true
  cmp : (match i.td with | .int _ => ((P.info? t).map (·.comparable)) = some true | _ => True)

def getT : List (Nat × TyI) → Nat → Option TyI
  | [], _ => none
  | (k, o) :: l, n => bif Nat.beq k n then some o else getT l n

def TOk (P : Program) (T : List (Nat × TyI)) : Prop := ∀ t i, getT T t = some i → TyOk P t i

/-! ### The compact code -/
inductive COp where
  | mv (x : Operand)
  | pick (c a b : Operand)
  | new (n : Nat) (z : IV)
  | box (n : Nat) (x : Operand)
  | bst (fs : List (Nat × IV)) (parts : List (Nat × Operand))
  | barr (sz : Nat) (zs : List IV) (parts : List (Nat × Operand))
  | bsl (e sz len : Nat) (z : IV) (parts : List (Nat × Operand))
  | ld (sz : Nat) (agg : Bool) (a : Operand)
  | sto (sz : Nat) (a x : Operand)
  | fld (k off sz : Nat) (a : Operand)
  | idxA (n sz : Nat) (a i : Operand)
  | idxS (sz : Nat) (x i : Operand)
  | slc (sz : Nat) (x : Operand) (lo hi : Option Operand)
  | bin (op : BinOp) (x y : Operand)
  | beq (neg : Bool) (x y : Operand)
  | ieq (neg : Bool) (x y : Operand)
  | un (op : UnOp) (x : Operand)
  | cvI (k : IntKind) (x : Operand)
  | cvStr (x : Operand)
  | cvByt (e : Nat) (x : Operand)
  | mki (t : TypeId) (x : Operand)
  | ext (x : Operand) (i : Nat)
  | call (f : FuncId) (args : List Operand)
  | callV (f : Operand) (args : List Operand)
  | len (x : Operand)
  | lens (x : Operand)
  | app (e sz bytes : Nat) (x y : Operand)
  | mks (e sz bytes : Nat) (z : IV) (n c : Operand)
  | snil (neg : Bool) (x : Operand)
  | min (x y : Operand)
  | mkf (f : FuncId) (caps : List Operand)
  | nck (x : Operand)
  | raw (op : Op)
  deriving Inhabited

structure CI where
  d : Option Nat
  g : Option (Option Nat × Bool)
  op : COp
  deriving Inhabited

inductive CC where
  | reg (ops : List CI)
  | drw (ops : List CI) (eds : List (List Nat))
  | seq (a b : CC)
  | cond (c : Operand) (a b : CC)
  | blk (id : Nat) (a : CC)
  | loop (a : CC)
  | exit (id : Nat)
  | ret
  | skip
  deriving Inhabited

def offsOk : List (Nat × Nat) → List (Nat × IV) → Nat → Bool
  | [], [], _ => true
  | (o, n) :: ds, (m, _) :: fs, acc => Nat.beq o acc && Nat.beq n m && offsOk ds fs (acc + m)
  | _, _, _ => false

def posOk : List (Nat × Nat) → Bool
  | [] => true
  | (_, n) :: ds => Nat.blt 0 n && posOk ds

section
variable (T : List (Nat × TyI))

def cCall (c : Call) : COp :=
  match c.callee with
  | .value (.func f) => .call f c.args.toList
  | .value f => .callV f c.args.toList
  | .builtin .len => match c.args.toList, c.argTypes.toList with
    | [x], [t] => match getT T t with
      | some ⟨.sl .., _, _⟩ => .len x
      | some ⟨.str, _, _⟩ => .lens x
      | _ => .raw (.call c)
    | _, _ => .raw (.call c)
  | .builtin .append => match c.args.toList, c.argTypes.toList with
    | [x, y], [t, u] => match getT T t, getT T u with
      | some ⟨.sl e sz b, _, _⟩, some ⟨.sl _ _ _, _, _⟩ => match getT T e with
        | some i => match constI i.z with
          | some cs => bif Nat.beq cs.length sz && (Nat.blt 0 sz && Nat.beq t u) then .app e sz b x y else .raw (.call c)
          | none => .raw (.call c)
        | none => .raw (.call c)
      | _, _ => .raw (.call c)
    | _, _ => .raw (.call c)
  | .builtin .min => match c.args.toList with
    | [x, y] => .min x y
    | _ => .raw (.call c)
  | _ => .raw (.call c)

def cOp (o : Oper) : COp :=
  match o.op with
  | .move x => .mv x
  | .assign x => .mv x
  | .pick c a b => .pick c a b
  | .alloc e => match getT T e with
    | some i => match constI i.z with
      | some cs => .new cs.length i.z
      | none => .raw o.op
    | none => .raw o.op
  | .box e x => match getT T e with
    | some i => .box i.size x
    | none => .raw o.op
  | .build t ps => match getT T t with
    | some ⟨.st ds, _, .st fs⟩ => bif offsOk ds fs 0 && posOk ds then .bst fs ps.toList else .raw o.op
    | some ⟨.arr _ _ sz, _, .arr sz' zs⟩ => bif Nat.beq sz sz' && Nat.blt 0 sz then .barr sz zs ps.toList else .raw o.op
    | _ => .raw o.op
  | .buildSlice t n ps => match getT T t with
    | some ⟨.sl e sz _, _, _⟩ => match getT T e with
      | some i => match constI i.z with
        | some cs => bif Nat.beq cs.length sz && Nat.ble (n * sz) 16777216 && Nat.blt 0 sz then .bsl e sz n i.z ps.toList else .raw o.op
        | none => .raw o.op
      | none => .raw o.op
    | _ => .raw o.op
  | .load t a => match getT T t with
    | some i => .ld i.size i.td.isAgg a
    | none => .raw o.op
  | .store t a x => match getT T t with
    | some i => bif Nat.blt 0 i.size then .sto i.size a x else .raw o.op
    | none => .raw o.op
  | .fieldAddr t a k => match getT T t with
    | some ⟨.st fs, _, _⟩ => match nth fs k with
      | some (off, sz) => .fld k off sz a
      | none => .raw o.op
    | _ => .raw o.op
  | .indexAddr t x i => match getT T t with
    | some ⟨.arr n _ sz, _, _⟩ => bif Nat.blt 0 sz && Nat.blt 1 n then .idxA n sz x i else .raw o.op
    | some ⟨.sl _ sz _, _, _⟩ => bif Nat.blt 0 sz then .idxS sz x i else .raw o.op
    | _ => .raw o.op
  | .slice t x lo hi none => match getT T t with
    | some ⟨.sl _ sz _, _, _⟩ => bif Nat.blt 0 sz then .slc sz x lo hi else .raw o.op
    | _ => .raw o.op
  | .binOp op t x y _ => match getT T t with
    | some ⟨.int _, _, _⟩ => .bin op x y
    | some ⟨.str, _, _⟩ => .bin op x y
    | some ⟨.bool, _, _⟩ => match op with
      | .eql => .beq false x y
      | .neq => .beq true x y
      | _ => .raw o.op
    | some ⟨.ifc, _, _⟩ => match op with
      | .eql => .ieq false x y
      | .neq => .ieq true x y
      | _ => .raw o.op
    | some ⟨.sl _ _ _, _, _⟩ => match op, y with
      | .eql, .const (.slice none 0 0) => .snil false x
      | .neq, .const (.slice none 0 0) => .snil true x
      | _, _ => .raw o.op
    | _ => .raw o.op
  | .unOp op _ x => .un op x
  | .convert s d x => match getT T s, getT T d with
    | some ⟨.int _, _, _⟩, some ⟨.int k, _, _⟩ => .cvI k x
    | some ⟨.sl e _ _, _, _⟩, some ⟨.str, _, _⟩ => match getT T e with
      | some ⟨.int .u8, _, _⟩ => .cvStr x
      | _ => .raw o.op
    | some ⟨.str, _, _⟩, some ⟨.sl e _ _, _, _⟩ => match getT T e with
      | some ⟨.int .u8, _, _⟩ => .cvByt e x
      | _ => .raw o.op
    | _, _ => .raw o.op
  | .makeInterface t x => match getT T t with
    | some ⟨.ifc, _, _⟩ => .raw o.op
    | some _ => .mki t x
    | none => .raw o.op
  | .extract x i => .ext x i
  | .makeFunc fn first caps => match fn, first.toList with
    | .func f, [] => .mkf f caps.toList
    | _, _ => .raw o.op
  | .makeSlice t n c => match getT T t with
    | some ⟨.sl e sz b, _, _⟩ => match getT T e with
      | some i => match constI i.z with
        | some cs => bif Nat.beq cs.length sz && Nat.blt 0 sz then .mks e sz b i.z n c else .raw o.op
        | none => .raw o.op
      | none => .raw o.op
    | _ => .raw o.op
  | .nilCheck x => .nck x
  | .call c => cCall T c
  | op => .raw op

def cOper (ops : Array Oper) (o : Oper) : CI :=
  { d := o.dst, g := match o.guard with
      | none => none
      | some (j, b) => some ((ops[j]?).bind (·.dst), b), op := cOp T o }

def cOps (ops : Array Oper) : List Oper → List CI
  | [] => []
  | o :: l => cOper T ops o :: cOps ops l

def edgesOf (o : Oper) : List Nat := (o.after.toList.filter (Region.binds .any)).map (·.on)

def cCode : Code → Option CC
  | .region _ ops false => some (.reg (cOps T ops ops.toList))
  | .region _ ops true => some (.drw (cOps T ops ops.toList) (ops.toList.map edgesOf))
  | .seq a b => match cCode a, cCode b with
    | some x, some y => some (.seq x y)
    | _, _ => none
  | .cond c a b => match cCode a, cCode b with
    | some x, some y => some (.cond c x y)
    | _, _ => none
  | .block id a => match cCode a with
    | some x => some (.blk id x)
    | none => none
  | .loop a => match cCode a with
    | some x => some (.loop x)
    | none => none
  | .exit id => some (.exit id)
  | .ret => some .ret
  | .skip => some .skip
  | _ => none
end
end Go.Eng
end

section
namespace Go.Eng
open Go Go.RowKit

def getFI : List (Nat × IV) → Nat → Nat → Nat → Option (Nat × IV)
  | [], _, _, _ => none
  | (n, x) :: _, 0, off, acc => bif Nat.beq acc off then some (n, x) else none
  | (n, _) :: fs, k + 1, off, acc => getFI fs k off (acc + n)

def getFP : List (Nat × PV) → Nat → Nat → Nat → Option (Nat × PV)
  | [], _, _, _ => none
  | (n, x) :: _, 0, off, acc => bif Nat.beq acc off then some (n, x) else none
  | (n, _) :: fs, k + 1, off, acc => getFP fs k off (acc + n)

def setFP : List (Nat × PV) → Nat → PV → List (Nat × PV)
  | [], _, _ => []
  | (n, _) :: fs, 0, y => (n, y) :: fs
  | (n, x) :: fs, k + 1, y => (n, x) :: setFP fs k y

def imKids : List (Nat × IV) → List (Nat × PV)
  | [] => []
  | (n, x) :: fs => (n, .im x) :: imKids fs

/-- A struct's parts. -/
def kids : PV → Option (List (Nat × PV))
  | .st fs => some fs
  | .im (.st fs) => some (imKids fs)
  | _ => none

/-- The part at a place: how many cells, and the tree. -/
def getP : Nat → PV → List Stp → Option (Nat × PV)
  | n, p, [] => some (n, p)
  | _, .st fs, .f k off :: l => match getFP fs k off 0 with
    | some (m, x) => getP m x l
    | none => none
  | _, .im (.st fs), .f k off :: l => match getFI fs k off 0 with
    | some (m, x) => getP m (.im x) l
    | none => none
  | _, _, _ => none

def setP : PV → List Stp → PV → Option PV
  | _, [], y => some y
  | t, .f k off :: l, y => match kids t with
    | some fs => match getFP fs k off 0 with
      | some (_, x) => match setP x l y with
        | some z => some (.st (setFP fs k z))
        | none => none
      | none => none
    | none => none
  | _, _, _ => none

section
variable {bs : Bs} {I : Im}

theorem imKids_ok {fs : List (Nat × IV)} {cs : List Value} (h : RC I (.st fs) cs) : PC bs I (.st (imKids fs)) cs := by
  induction fs generalizing cs with
  | nil => cases h; exact .stN
  | cons a fs ih =>
    cases h with
    | stC n x _ c cs' h1 h2 h3 => exact .stC n _ _ c cs' (.im x c h1) h2 (ih h3)

theorem PC.im_inv {x : IV} {cs : List Value} (h : PC bs I (.im x) cs) : RC I x cs := by cases h; assumption

theorem kids_ok {t : PV} {fs : List (Nat × PV)} {cs : List Value} (h : PC bs I t cs) (hk : kids t = some fs) : PC bs I (.st fs) cs := by
  unfold kids at hk
  split at hk
  · simp at hk; subst hk; exact h
  · simp at hk; subst hk; exact imKids_ok h.im_inv
  · cases hk

/-- cs lies in vs from o on. -/
def SubAt (vs : List Value) (o : Nat) (cs : List Value) : Prop := o + cs.length ≤ vs.length ∧ ∀ j, j < cs.length → vs[o + j]? = cs[j]?

theorem SubAt.self (vs : List Value) : SubAt vs 0 vs := ⟨by simp, fun j _ => by simp⟩
theorem SubAt.trans {vs cs ds : List Value} {o q : Nat} (h : SubAt vs o cs) (k : SubAt cs q ds) : SubAt vs (o + q) ds :=
  ⟨by have := h.1; have := k.1; omega, fun j hj => by
    rw [Nat.add_assoc, h.2 (q + j) (by have := k.1; omega), k.2 j hj]⟩
theorem SubAt.left (c ds : List Value) : SubAt (c ++ ds) 0 c := ⟨by simp, fun j hj => by simp [List.getElem?_append_left hj]⟩
theorem SubAt.right (c ds : List Value) : SubAt (c ++ ds) c.length ds := ⟨by simp, fun j _ => by rw [List.getElem?_append_right (by omega)]; congr 1; omega⟩

theorem getFP_ok {fs : List (Nat × PV)} {k off acc : Nat} {n : Nat} {x : PV} {cs : List Value} (h : PC bs I (.st fs) cs) (hg : getFP fs k off acc = some (n, x)) :
    ∃ c, PC bs I x c ∧ c.length = n ∧ acc ≤ off ∧ SubAt cs (off - acc) c := by
  induction fs generalizing k acc cs with
  | nil => simp [getFP] at hg
  | cons a fs ih =>
    obtain ⟨m, y⟩ := a
    cases h with
    | stC _ _ _ c cs' h1 h2 h3 =>
      cases k with
      | zero =>
        simp only [getFP] at hg
        cases hb : Nat.beq acc off with
        | true =>
          simp [hb] at hg
          obtain ⟨rfl, rfl⟩ := hg
          have e : acc = off := Nat.eq_of_beq_eq_true hb
          subst e
          exact ⟨c, h1, h2, Nat.le_refl _, by simpa using SubAt.left c cs'⟩
        | false => simp [hb] at hg
      | succ k =>
        simp only [getFP] at hg
        obtain ⟨d, k1, k2, k3, k4⟩ := ih h3 hg
        refine ⟨d, k1, k2, by omega, ?_⟩
        have := (SubAt.right c cs').trans k4
        rw [show c.length + (off - (acc + m)) = off - acc by omega] at this
        exact this

theorem getFI_ok {fs : List (Nat × IV)} {k off acc : Nat} {n : Nat} {x : IV} {cs : List Value} (h : RC I (.st fs) cs) (hg : getFI fs k off acc = some (n, x)) :
    ∃ c, RC I x c ∧ c.length = n ∧ acc ≤ off ∧ SubAt cs (off - acc) c := by
  induction fs generalizing k acc cs with
  | nil => simp [getFI] at hg
  | cons a fs ih =>
    obtain ⟨m, y⟩ := a
    cases h with
    | stC _ _ _ c cs' h1 h2 h3 =>
      cases k with
      | zero =>
        simp only [getFI] at hg
        cases hb : Nat.beq acc off with
        | true =>
          simp [hb] at hg
          obtain ⟨rfl, rfl⟩ := hg
          have e : acc = off := Nat.eq_of_beq_eq_true hb
          subst e
          exact ⟨c, h1, h2, Nat.le_refl _, by simpa using SubAt.left c cs'⟩
        | false => simp [hb] at hg
      | succ k =>
        simp only [getFI] at hg
        obtain ⟨d, k1, k2, k3, k4⟩ := ih h3 hg
        refine ⟨d, k1, k2, by omega, ?_⟩
        have := (SubAt.right c cs').trans k4
        rw [show c.length + (off - (acc + m)) = off - acc by omega] at this
        exact this

theorem getP_ok {path : List Stp} : ∀ {n m : Nat} {t p : PV} {vs : List Value}, PC bs I t vs → vs.length = n → getP n t path = some (m, p) →
    ∃ cs, PC bs I p cs ∧ cs.length = m ∧ SubAt vs (offP path) cs := by
  induction path with
  | nil =>
    intro n m t p vs h hn hg
    have : n = m ∧ t = p := by cases t <;> simpa [getP] using hg
    obtain ⟨rfl, rfl⟩ := this
    exact ⟨vs, h, hn, SubAt.self vs⟩
  | cons s l ih =>
    intro n m t p vs h hn hg
    cases s with
    | e i sz => cases t <;> simp [getP] at hg
    | f k off =>
      cases t with
      | st fs =>
        simp only [getP] at hg
        split at hg
        · rename_i m' x hf
          obtain ⟨c, k1, k2, k3, k4⟩ := getFP_ok h hf
          obtain ⟨d, q1, q2, q3⟩ := ih k1 k2 hg
          exact ⟨d, q1, q2, by simpa [offP, Stp.delta] using k4.trans q3⟩
        · cases hg
      | im v =>
        cases v with
        | st fs =>
          simp only [getP] at hg
          split at hg
          · rename_i m' x hf
            obtain ⟨c, k1, k2, k3, k4⟩ := getFI_ok h.im_inv hf
            obtain ⟨d, q1, q2, q3⟩ := ih (.im x c k1) k2 hg
            exact ⟨d, q1, q2, by simpa [offP, Stp.delta] using k4.trans q3⟩
          · cases hg
        | _ => simp [getP] at hg
      | _ => simp [getP] at hg

/-- vs with cs laid over it from o on. -/
def over (vs : List Value) (o : Nat) (cs : List Value) : List Value := vs.take o ++ cs ++ vs.drop (o + cs.length)

theorem over_length (vs : List Value) (o : Nat) (cs : List Value) (h : o + cs.length ≤ vs.length) : (over vs o cs).length = vs.length := by
  simp [over]; omega

theorem over_sub {vs c ds : List Value} {o q : Nat} (h : SubAt vs o c) (hf : q + ds.length ≤ c.length) : over vs o (over c q ds) = over vs (o + q) ds := by
  have h1 := h.1
  have hd : (over c q ds).length = c.length := over_length c q ds hf
  apply List.ext_getElem?
  intro j
  have e1 : ∀ (v : List Value) (p : Nat) (d : List Value), p + d.length ≤ v.length → (over v p d)[j]? = if j < p then v[j]? else if j < p + d.length then d[j - p]? else v[j]? := by
    intro v p d hp
    simp only [over, List.getElem?_append, List.length_append, List.length_take, List.getElem?_take, List.getElem?_drop]
    by_cases a1 : j < p
    · rw [if_pos (by omega), if_pos (by omega), if_pos a1, if_pos a1]
    · by_cases a2 : j < p + d.length
      · rw [if_pos (by omega), if_neg (by omega), if_neg a1, if_pos a2]; congr 1; omega
      · rw [if_neg (by omega), if_neg a1, if_neg a2]; congr 1; omega
  rw [e1 _ _ _ (by omega), e1 _ _ _ (by omega)]
  by_cases a1 : j < o
  · rw [if_pos a1, if_pos (by omega)]
  · rw [if_neg a1]
    by_cases a2 : j < o + c.length
    · rw [if_pos (by omega)]
      have h2 := h.2 (j - o) (by omega)
      rw [show o + (j - o) = j by omega] at h2
      have e2 : (over c q ds)[j - o]? = if j - o < q then c[j - o]? else if j - o < q + ds.length then ds[j - o - q]? else c[j - o]? := by
        simp only [over, List.getElem?_append, List.length_append, List.length_take, List.getElem?_take, List.getElem?_drop]
        by_cases b1 : j - o < q
        · rw [if_pos (by omega), if_pos (by omega), if_pos b1, if_pos b1]
        · by_cases b2 : j - o < q + ds.length
          · rw [if_pos (by omega), if_neg (by omega), if_neg b1, if_pos b2]; congr 1; omega
          · rw [if_neg (by omega), if_neg b1, if_neg b2]; congr 1; omega
      rw [e2]
      by_cases b1 : j < o + q
      · rw [if_pos (by omega), if_pos b1, h2]
      · by_cases b2 : j < o + q + ds.length
        · rw [if_neg (by omega), if_pos (by omega), if_neg b1, if_pos b2]; congr 1; omega
        · rw [if_neg (by omega), if_neg (by omega), if_neg b1, if_neg b2, h2]
    · rw [if_neg (by omega), if_neg (by omega), if_neg (by omega)]

theorem take_over {v d : List Value} {o m : Nat} (h : o + d.length ≤ m) (hm : m ≤ v.length) : (over v o d).take m = over (v.take m) o d := by
  simp only [over, List.append_assoc]
  rw [List.take_append, List.take_append, List.take_take, List.take_take, List.drop_take]
  simp only [List.length_take]
  rw [show min m o = o by omega, show min o m = o by omega, show m - min o v.length - d.length = m - (o + d.length) by omega,
    show List.take (m - min o v.length) d = d from List.take_of_length_le (by omega)]

theorem setFP_ok {fs : List (Nat × PV)} {k off acc : Nat} {n : Nat} {x y : PV} {cs c d : List Value} (h : PC bs I (.st fs) cs) (hg : getFP fs k off acc = some (n, x))
    (hy : PC bs I y d) (hd : d.length = n) : PC bs I (.st (setFP fs k y)) (over cs (off - acc) d) := by
  induction fs generalizing k acc cs with
  | nil => simp [getFP] at hg
  | cons a fs ih =>
    obtain ⟨m, z⟩ := a
    cases h with
    | stC _ _ _ c cs' h1 h2 h3 =>
      cases k with
      | zero =>
        simp only [getFP] at hg
        cases hb : Nat.beq acc off with
        | true =>
          simp [hb] at hg
          obtain ⟨rfl, rfl⟩ := hg
          have e : acc = off := Nat.eq_of_beq_eq_true hb
          subst e
          simp only [setFP, over, Nat.sub_self, List.take_zero, List.nil_append, Nat.zero_add]
          rw [show (c ++ cs').drop d.length = cs' by rw [hd, ← h2]; simp]
          exact .stC _ y fs d cs' hy hd h3
        | false => simp [hb] at hg
      | succ k =>
        simp only [getFP] at hg
        obtain ⟨_, _, _, k3, _⟩ := getFP_ok h3 hg
        have := ih h3 hg
        simp only [setFP]
        have e : over (c ++ cs') (off - acc) d = c ++ over cs' (off - (acc + m)) d := by
          simp only [over, List.append_assoc]
          rw [show off - acc = c.length + (off - (acc + m)) by omega, List.take_append, List.drop_append]
          rw [List.take_of_length_le (by omega), List.drop_eq_nil_of_le (by omega)]
          simp [show c.length + (off - (acc + m)) + d.length - c.length = off - (acc + m) + d.length by omega]
        rw [e]
        exact .stC _ z _ c _ h1 h2 this

theorem setP_ok {path : List Stp} : ∀ {n m : Nat} {t p y z : PV} {vs ds : List Value}, PC bs I t vs → vs.length = n → getP n t path = some (m, p) → setP t path y = some z →
    PC bs I y ds → ds.length = m → PC bs I z (over vs (offP path) ds) ∧ offP path + ds.length ≤ vs.length := by
  induction path with
  | nil =>
    intro n m t p y z vs ds h hn hg hs hy hd
    have : n = m ∧ t = p := by cases t <;> simpa [getP] using hg
    obtain ⟨rfl, rfl⟩ := this
    have : y = z := by simpa [setP] using hs
    subst this
    refine ⟨?_, by simp [offP]; omega⟩
    simp only [over, offP, List.take_zero, List.nil_append, Nat.zero_add]
    rw [List.drop_eq_nil_of_le (by omega)]
    simpa using hy
  | cons s l ih =>
    intro n m t p y z vs ds h hn hg hs hy hd
    cases s with
    | e i sz => cases t <;> simp [getP] at hg
    | f k off =>
      simp only [setP] at hs
      split at hs
      · rename_i fs hk
        have hst := kids_ok h hk
        split at hs
        · rename_i m' x hf
          split at hs
          · rename_i z' hz
            simp at hs; subst hs
            obtain ⟨c, k1, k2, k3, k4⟩ := getFP_ok hst hf
            have hgx : getP m' x l = some (m, p) := by
              cases t with
              | st gs =>
                simp [kids] at hk; subst hk
                simpa [getP, hf] using hg
              | im v =>
                cases v with
                | st gs =>
                  simp [kids] at hk
                  simp only [getP] at hg
                  have hfi : ∀ (gs : List (Nat × IV)) (k acc : Nat), getFP (imKids gs) k off acc = (getFI gs k off acc).map fun q => (q.1, PV.im q.2) := by
                    intro gs
                    induction gs with
                    | nil => intro k acc; simp [imKids, getFP, getFI]
                    | cons a gs ih2 =>
                      obtain ⟨a1, a2⟩ := a
                      intro k acc
                      cases k with
                      | zero => simp only [imKids, getFP, getFI]; cases Nat.beq acc off <;> rfl
                      | succ k => simp only [imKids, getFP, getFI]; exact ih2 k _
                  subst hk
                  rw [hfi] at hf
                  cases hq : getFI gs k off 0 with
                  | none => simp [hq] at hf
                  | some q =>
                    simp [hq] at hf hg
                    obtain ⟨rfl, rfl⟩ := hf
                    exact hg
                | _ => simp [kids] at hk
              | _ => simp [kids] at hk
            obtain ⟨q1, q2⟩ := ih k1 k2 hgx hz hy hd
            have hlen := over_length c (offP l) ds q2
            have r := setFP_ok (c := c) hst hf q1 (hlen.trans k2)
            have e : over vs (off - 0) (over c (offP l) ds) = over vs (offP (.f k off :: l)) ds := by
              rw [over_sub k4 q2]
              simp [offP, Stp.delta]
            rw [e] at r
            exact ⟨r, by have := k4.1; simp [offP, Stp.delta]; omega⟩
          · cases hs
        · cases hs
      · cases hs

end
end Go.Eng
end

section
namespace Go.Eng
open Go Go.RowKit

def toIVs (f : PV → Option IV) : List (Nat × PV) → Option (List (Nat × IV))
  | [] => some []
  | (n, p) :: fs => match f p, toIVs f fs with
    | some x, some gs => some ((n, x) :: gs)
    | _, _ => none
def toIVl (f : PV → Option IV) : List PV → Option (List IV)
  | [] => some []
  | p :: ps => match f p, toIVl f ps with
    | some x, some xs => some (x :: xs)
    | _, _ => none

/-- A frame value that holds no object that may still turn, as an immutable tree. -/
def toIV (st : Sto) : Nat → PV → Option IV
  | 0, _ => none
  | k + 1, p => match p with
    | .im x => some x
    | .ownF sz id => match getO st id with
      | some (.row _ sz' xs 2) => bif Nat.beq sz sz' then some (.sl sz xs) else none
      | _ => none
    | .own sz id off len => match getO st id with
      | some (.row _ sz' xs 2) => bif Nat.beq sz sz' then some (.sl sz ((xs.drop off).take len)) else none
      | _ => none
    | .ref id [] => match getO st id with
      | some (.box true n t) => match toIV st k t with
        | some x => some (.pim n x)
        | none => none
      | _ => none
    | .st fs => match toIVs (toIV st k) fs with
      | some gs => some (.st gs)
      | none => none
    | .ifc t q => match toIV st k q with
      | some x => some (.ifc t x)
      | none => none
    | .fn f caps => match toIVl (toIV st k) caps with
      | some xs => some (.fn f xs)
      | none => none
    | _ => none

section
variable {G : List (Nat × IV)} {B : Nat} {L : List Nat} {w0 : World} {I0 : Im} {st : Sto} {nx : Nat} {bs : Bs} {I : Im} {w : World}

theorem RC.take_drop {I : Im} {sz : Nat} {xs : List IV} {cs : List Value} (k : RC I (.arr sz xs) cs) (i n : Nat) :
    RC I (.arr sz ((xs.drop i).take n)) ((cs.drop (i * sz)).take (n * sz)) := by
  induction xs generalizing cs i n with
  | nil => cases k; simp; exact .arrN sz
  | cons x xs ih =>
    cases k with
    | arrC _ _ _ c cs' h1 h2 h3 =>
      cases i with
      | succ i =>
        have := ih h3 i n
        simp only [List.drop_succ_cons, Nat.add_mul, Nat.one_mul]
        rw [List.drop_append, show List.drop (i * sz + sz) c = [] from List.drop_eq_nil_of_le (by omega)]
        simpa [show i * sz + sz - c.length = i * sz by omega] using this
      | zero =>
        cases n with
        | zero => simp; exact .arrN sz
        | succ n =>
          have := ih h3 0 n
          simp only [List.drop_zero, Nat.zero_mul] at this ⊢
          simp only [List.take_succ_cons, Nat.add_mul, Nat.one_mul]
          rw [List.take_append, show List.take (n * sz + sz) c = c from List.take_of_length_le (by omega)]
          rw [show n * sz + sz - c.length = n * sz by omega]
          exact .arrC sz x _ c _ h1 h2 this

theorem At.drop {I : Im} {b o : Nat} {cs : List Value} (h : At I b o cs) (i n : Nat) : At I b (o + i) ((cs.drop i).take n) := by
  intro j hj
  simp at hj
  rw [Nat.add_assoc, h (i + j) (by omega), List.getElem?_take, if_pos (by omega), List.getElem?_drop]

theorem toIVs_ok {g : PV → Option IV} (hg : ∀ {p x cs}, PC bs I p cs → g p = some x → RC I x cs) : ∀ {fs : List (Nat × PV)} {gs : List (Nat × IV)} {cs : List Value}, PC bs I (.st fs) cs → toIVs g fs = some gs → RC I (.st gs) cs
  | [], gs, cs, hp, ht => by
    simp [toIVs] at ht; subst ht
    cases hp; exact .stN
  | (n, p) :: fs, gs, cs, hp, ht => by
    simp only [toIVs] at ht
    split at ht
    · rename_i x gs' h1 h2
      simp at ht; subst ht
      cases hp with
      | stC _ _ _ c cs' k1 k2 k3 => exact .stC n x gs' c cs' (hg k1 h1) k2 (toIVs_ok hg k3 h2)
    · cases ht
theorem toIVl_ok {g : PV → Option IV} (hg : ∀ {p x cs}, PC bs I p cs → g p = some x → RC I x cs) {f : FuncId} : ∀ {ps : List PV} {xs : List IV} {cs : List Value}, PC bs I (.fn f ps) cs → toIVl g ps = some xs →
    ∃ vs, cs = [.func (.func f) #[] ⟨vs⟩] ∧ RC I (.arr 1 xs) vs
  | [], xs, cs, hp, ht => by
    simp [toIVl] at ht; subst ht
    cases hp; exact ⟨[], rfl, .arrN 1⟩
  | p :: ps, xs, cs, hp, ht => by
    simp only [toIVl] at ht
    split at ht
    · rename_i x xs' h1 h2
      simp at ht; subst ht
      cases hp with
      | fnC _ _ u _ vs k1 k2 =>
        obtain ⟨vs', e, hv⟩ := toIVl_ok hg k2 h2
        simp only [List.cons.injEq, Value.func.injEq, Array.mk.injEq, and_true, true_and] at e
        subst e
        exact ⟨u :: vs, rfl, .arrC 1 x xs' [u] vs (hg k1 h1) rfl hv⟩
    · cases ht

theorem toIV_ok (h : ORel G B L w0 I0 st nx bs I w) : ∀ {k : Nat} {p : PV} {x : IV} {cs : List Value}, PC bs I p cs → toIV st k p = some x → RC I x cs
  | 0, p, x, cs, _, ht => by simp [toIV] at ht
  | k + 1, .im y, x, cs, hp, ht => by simp [toIV] at ht; subst ht; exact hp.im_inv
  | k + 1, .ownF sz id, x, cs, hp, ht => by
    simp only [toIV] at ht
    split at ht
    · rename_i e sz' xs ho
      cases hb : Nat.beq sz sz' with
      | false => simp [hb] at ht
      | true =>
        simp [hb] at ht; subst ht
        have hsz : sz = sz' := Nat.eq_of_beq_eq_true hb
        subst hsz
        cases hp with
        | ownF _ _ a n cap hbs =>
          obtain ⟨ds, h1, h2, h3⟩ := h.free ho hbs
          rcases h1.2 with ⟨e1, e2⟩ | ⟨g, cap', cur, e1, _, _, q1, q2, q3, q4⟩
          · simp only [Value.slice.injEq] at e1
            obtain ⟨rfl, rfl, rfl⟩ := e1
            have : xs = [] := List.eq_nil_of_length_eq_zero e2
            subst this
            exact .sl sz [] [] none 0 0 0 (.arrN sz) (Nat.le_refl _) (fun h => absurd rfl h) (fun j hj => by simp at hj)
          · simp only [Value.slice.injEq] at e1
            obtain ⟨rfl, rfl, rfl⟩ := e1
            exact .sl sz xs ds _ g 0 cap h2 q1 (fun _ => rfl) ((h3 g rfl).2.2 rfl)
    · cases ht
  | k + 1, .own sz id off len, x, cs, hp, ht => by
    simp only [toIV] at ht
    split at ht
    · rename_i e sz' xs ho
      cases hb : Nat.beq sz sz' with
      | false => simp [hb] at ht
      | true =>
        simp [hb] at ht; subst ht
        have hsz : sz = sz' := Nat.eq_of_beq_eq_true hb
        subst hsz
        cases hp with
        | own _ _ _ _ v u hbs hcut =>
          obtain ⟨ds, h1, h2, h3⟩ := h.free ho hbs
          have hr := h2.take_drop off len
          rcases h1.2 with ⟨e1, e2⟩ | ⟨g, cap', cur, e1, _, _, q1, q2, q3, q4⟩
          · subst e1
            simp only [cutV] at hcut
            obtain ⟨c1, a', rfl, c2⟩ := hcut
            have hxs : xs = [] := List.eq_nil_of_length_eq_zero e2
            subst hxs
            have : len = 0 := by omega
            subst this
            simp only [List.take_zero, Nat.zero_mul] at hr ⊢
            exact .sl sz [] [] a' 0 0 _ hr (Nat.zero_le _) (fun h => absurd rfl h) (fun j hj => by simp at hj)
          · subst e1
            simp only [cutV] at hcut
            obtain ⟨c1, a', rfl, c2⟩ := hcut
            have hl : ((xs.drop off).take len).length = len := by simp; omega
            have hres := RC.sl sz ((xs.drop off).take len) _ a' g (off * sz) (cap' - off) hr (by omega) ?_ ?_
            · rw [hl] at hres; exact hres
            · intro hne
              have hlen : 0 < len := by rw [← hl]; exact List.length_pos_iff.2 hne
              rw [c2 (by omega)]
              simp only [Option.map_some, Addr.add]
              split <;> simp_all
            · have := ((h3 g rfl).2.2 rfl).drop (off * sz) (len * sz)
              simpa using this
    · cases ht
  | k + 1, .ref id [], x, cs, hp, ht => by
    simp only [toIV] at ht
    split at ht
    · rename_i n t ho
      split at ht
      · rename_i y hy
        simp at ht; subst ht
        cases hp with
        | ref _ _ b hbs =>
          obtain ⟨g, vs, T, e1, e2, e3, e4, e5, e6⟩ := h.free ho hbs
          simp only [Value.pointer.injEq, Option.some.injEq, Addr.mk.injEq] at e1
          obtain ⟨rfl, _, _⟩ := e1
          exact .pim n y vs b 0 (toIV_ok h e3 hy) e4 (e6 rfl)
      · cases ht
    · cases ht
  | k + 1, .st fs, x, cs, hp, ht => by
    simp only [toIV] at ht
    split at ht
    · rename_i gs hg
      simp at ht; subst ht
      exact toIVs_ok (fun h1 h2 => toIV_ok h h1 h2) hp hg
    · cases ht
  | k + 1, .ifc t q, x, cs, hp, ht => by
    simp only [toIV] at ht
    split at ht
    · rename_i y hy
      simp at ht; subst ht
      cases hp with
      | ifc _ _ u h1 h2 => exact .ifc t y u (toIV_ok h h1 hy) h2
    · cases ht
  | k + 1, .fn f caps, x, cs, hp, ht => by
    simp only [toIV] at ht
    split at ht
    · rename_i xs hx
      simp at ht; subst ht
      obtain ⟨vs, rfl, hv⟩ := toIVl_ok (fun h1 h2 => toIV_ok h h1 h2) hp hx
      exact .fn f xs vs hv
    · cases ht
  | k + 1, .ref id (_ :: _), x, cs, _, ht => by simp [toIV] at ht
  | k + 1, .rel .., x, cs, _, ht => by simp [toIV] at ht
  | k + 1, .tup .., x, cs, _, ht => by simp [toIV] at ht
  | k + 1, .gd .., x, cs, _, ht => by simp [toIV] at ht
  | k + 1, .unk, x, cs, _, ht => by simp [toIV] at ht

end
end Go.Eng
end

section
namespace Go.Eng
open Go Go.RowKit

inductive Hint where
  | no
  | iv (x : IV)
  | ivs (xs : List IV)
  | int (n : Int)
  | bool (b : Bool)
  | ints (l : List Int)
  | gt (h : Hint)
  | fz (ids : List Nat) (h : Hint)
  | gf
  | call (res : PV) (st' : Sto) (nx' : Nat)
  deriving Inhabited

inductive Eff where
  | no
  | new (o : PObj)
  | new2 (o : PObj)
  | set (id : Nat) (o : PObj)
  | app (id : Nat) (o : PObj)
  | call (st' : Sto) (nx' : Nat)
  deriving Inhabited

def sizesI : List (Nat × IV) → Nat
  | [] => 0
  | (n, _) :: fs => n + sizesI fs
def sizesP : List (Nat × PV) → Nat
  | [] => 0
  | (n, _) :: fs => n + sizesP fs
def sizeI : IV → Nat
  | .st fs => sizesI fs
  | .arr sz xs => xs.length * sz
  | _ => 1
def sizeP : PV → Nat
  | .im x => sizeI x
  | .st fs => sizesP fs
  | _ => 1

theorem sizesI_ok {I : Im} {fs : List (Nat × IV)} {cs : List Value} (h : RC I (.st fs) cs) : cs.length = sizesI fs := by
  induction fs generalizing cs with
  | nil => cases h; rfl
  | cons a fs ih =>
    cases h with
    | stC n x _ c cs' h1 h2 h3 => simp [sizesI, ih h3, h2]
theorem sizesP_ok {bs : Bs} {I : Im} {fs : List (Nat × PV)} {cs : List Value} (h : PC bs I (.st fs) cs) : cs.length = sizesP fs := by
  induction fs generalizing cs with
  | nil => cases h; rfl
  | cons a fs ih =>
    cases h with
    | stC n x _ c cs' h1 h2 h3 => simp [sizesP, ih h3, h2]
theorem sizeI_ok {I : Im} {x : IV} {cs : List Value} (h : RC I x cs) : cs.length = sizeI x := by
  cases x with
  | st fs => exact sizesI_ok h
  | arr sz xs => exact h.arr_length
  | _ => cases h; rfl
theorem sizeP_ok {bs : Bs} {I : Im} {x : PV} {cs : List Value} (h : PC bs I x cs) : cs.length = sizeP x := by
  cases x with
  | st fs => exact sizesP_ok h
  | im x => exact sizeI_ok h.im_inv
  | fn f caps => cases h <;> rfl
  | _ => cases h; try rfl

def bitI (op : BinOp) (k : IntKind) (x y : Int) : Int :=
  let a := BitVec.ofInt k.bits x
  let b := BitVec.ofInt k.bits y
  k.wrap (match op with | .and => (a &&& b).toNat | .or => (a ||| b).toNat | .xor => (a ^^^ b).toNat | _ => (a &&& ~~~b).toNat)
def shlI (k : IntKind) (x y : Int) : Int := k.wrap (x * 2 ^ (min y.toNat k.bits))
def shrI (k : IntKind) (x y : Int) : Int := x.fdiv (2 ^ (min y.toNat k.bits))

def kEq : IntKind → IntKind → Bool
  | .i8, .i8 => true | .i16, .i16 => true | .i32, .i32 => true | .i64, .i64 => true
  | .u8, .u8 => true | .u16, .u16 => true | .u32, .u32 => true | .u64, .u64 => true
  | _, _ => false
theorem kEq_ok {j k : IntKind} (h : kEq j k = true) : j = k := by cases j <;> cases k <;> first | rfl | cases h

/-! ### What an operation asks for -/
structure Ob where
  P : Prop
  c : Bool
  ok : c = true → P

def oD (p : Prop) [h : Decidable p] : Ob := ⟨p, decide p, of_decide_eq_true⟩
@[simp] theorem oD_P (p : Prop) [Decidable p] : (oD p).P = p := rfl

/-- Are two values the same (yes, or not seen)? -/
def beqV : Value → Value → Bool
  | .int j a, .int k b => kEq j k && decide (a = b)
  | .bool a, .bool b => a == b
  | .string a, .string b => a.data.toList == b.data.toList
  | .nilIface, .nilIface => true
  | .nilFunc, .nilFunc => true
  | .slice none a b, .slice none c d => Nat.beq a c && Nat.beq b d
  | .pointer none, .pointer none => true
  | _, _ => false
theorem beqV_ok {a b : Value} (h : beqV a b = true) : a = b := by
  unfold beqV at h
  split at h
  · simp only [Bool.and_eq_true, decide_eq_true_eq] at h; rw [kEq_ok h.1, h.2]
  · simp at h; rw [h]
  · rename_i a b
    have h2 : a = b := ByteArray.ext (Array.toList_inj.1 (by simpa using h))
    rw [h2]
  · rfl
  · rfl
  · simp only [Bool.and_eq_true] at h; rw [Nat.eq_of_beq_eq_true h.1, Nat.eq_of_beq_eq_true h.2]
  · rfl
  · cases h
mutual
def beqI : IV → IV → Bool
  | .v a, .v b => beqV a b
  | .sl n xs, .sl m ys => Nat.beq n m && beqL xs ys
  | .pim n x, .pim m y => Nat.beq n m && beqI x y
  | .ifc t x, .ifc u y => Nat.beq t u && beqI x y
  | .st fs, .st gs => beqF fs gs
  | .arr n xs, .arr m ys => Nat.beq n m && beqL xs ys
  | .fn f xs, .fn g ys => Nat.beq f g && beqL xs ys
  | _, _ => false
def beqL : List IV → List IV → Bool
  | [], [] => true
  | a :: l, b :: m => beqI a b && beqL l m
  | _, _ => false
def beqF : List (Nat × IV) → List (Nat × IV) → Bool
  | [], [] => true
  | (n, a) :: l, (m, b) :: k => Nat.beq n m && (beqI a b && beqF l k)
  | _, _ => false
end
mutual
theorem beqI_ok : ∀ {a b : IV}, beqI a b = true → a = b
  | .v a, b, h => by
    cases b <;> simp only [beqI, Bool.false_eq_true] at h
    rw [beqV_ok h]
  | .sl n xs, b, h => by
    cases b <;> simp only [beqI, Bool.false_eq_true, Bool.and_eq_true] at h
    rw [Nat.eq_of_beq_eq_true h.1, beqL_ok h.2]
  | .pim n xs, b, h => by
    cases b <;> simp only [beqI, Bool.false_eq_true, Bool.and_eq_true] at h
    rw [Nat.eq_of_beq_eq_true h.1, beqI_ok h.2]
  | .ifc n xs, b, h => by
    cases b <;> simp only [beqI, Bool.false_eq_true, Bool.and_eq_true] at h
    rw [show n = _ from Nat.eq_of_beq_eq_true h.1, beqI_ok h.2]
  | .st xs, b, h => by
    cases b <;> simp only [beqI, Bool.false_eq_true, Bool.and_eq_true] at h
    rw [beqF_ok h]
  | .arr n xs, b, h => by
    cases b <;> simp only [beqI, Bool.false_eq_true, Bool.and_eq_true] at h
    rw [Nat.eq_of_beq_eq_true h.1, beqL_ok h.2]
  | .fn n xs, b, h => by
    cases b <;> simp only [beqI, Bool.false_eq_true, Bool.and_eq_true] at h
    rw [show n = _ from Nat.eq_of_beq_eq_true h.1, beqL_ok h.2]
  | .nn .., b, h => by cases b <;> simp [beqI] at h
theorem beqL_ok : ∀ {a b : List IV}, beqL a b = true → a = b
  | [], b, h => by cases b; rfl; simp [beqL] at h
  | a :: l, b, h => by
    cases b
    · simp [beqL] at h
    · simp only [beqL, Bool.and_eq_true] at h
      rw [beqI_ok h.1, beqL_ok h.2]
theorem beqF_ok : ∀ {a b : List (Nat × IV)}, beqF a b = true → a = b
  | [], b, h => by cases b; rfl; simp [beqF] at h
  | (n, a) :: l, b, h => by
    cases b
    · simp [beqF] at h
    · simp only [beqF, Bool.and_eq_true] at h
      rw [Nat.eq_of_beq_eq_true h.1, beqI_ok h.2.1, beqF_ok h.2.2]
end
def oL (xs ys : List IV) : Ob := ⟨xs = ys, beqL xs ys, beqL_ok⟩
@[simp] theorem oL_P (xs ys : List IV) : (oL xs ys).P = (xs = ys) := rfl
def oG (xs : List IV) (i : Nat) (x : IV) : Ob := ⟨xs[i]? = some x, match nth xs i with | some y => beqI y x | none => false, fun h => by
  split at h
  · rename_i y hy; rw [← nth_eq, hy, beqI_ok h]
  · cases h⟩
@[simp] theorem oG_P (xs : List IV) (i : Nat) (x : IV) : (oG xs i x).P = (xs[i]? = some x) := rfl

def binI (op : BinOp) (k : IntKind) (a b : Int) : Option (Value × List Ob) :=
  match op with
  | .add => some (.int k (k.wrap (a + b)), [])
  | .sub => some (.int k (k.wrap (a - b)), [])
  | .mul => some (.int k (k.wrap (a * b)), [])
  | .quo => some (.int k (k.wrap (a.tdiv b)), [oD (b ≠ 0)])
  | .rem => some (.int k (a.tmod b), [oD (b ≠ 0)])
  | .and => some (.int k (bitI .and k a b), [])
  | .or => some (.int k (bitI .or k a b), [])
  | .xor => some (.int k (bitI .xor k a b), [])
  | .andNot => some (.int k (bitI .andNot k a b), [])
  | .eql => some (.bool (a == b), [])
  | .neq => some (.bool (a != b), [])
  | .lss => some (.bool (decide (a < b)), [])
  | .leq => some (.bool (decide (a ≤ b)), [])
  | .gtr => some (.bool (decide (a > b)), [])
  | .geq => some (.bool (decide (a ≥ b)), [])
  | _ => none

def snoc : List Stp → Stp → List Stp
  | [], s => [s]
  | a :: l, s => a :: snoc l s

def lastE : List Stp → Option (List Stp × Nat × Nat)
  | [] => none
  | [.e i sz] => some ([], i, sz)
  | a :: l => match lastE l with
    | some (p, i, sz) => some (a :: p, i, sz)
    | none => none

def putKids (ev : Operand → PV) : List (Nat × PV) → List (Nat × Operand) → List Ob → Option (List (Nat × PV) × List Ob)
  | fs, [], obs => some (fs, obs)
  | fs, (k, x) :: ps, obs => match nth fs k with
    | some (n, _) => match ev x with
      | .unk => none
      | .gd _ _ => none
      | .tup _ => none
      | p => putKids ev (setFP fs k p) ps (oD (sizeP p = n) :: obs)
    | none => none

def setL (l : List IV) (k : Nat) (x : IV) : List IV :=
  match l, k with
  | [], _ => []
  | _ :: l, 0 => x :: l
  | y :: l, k + 1 => y :: setL l k x

def putElems (ev : Operand → PV) (st : Sto) (sz : Nat) : List IV → List (Nat × Operand) → List Ob → Option (List IV × List Ob)
  | xs, [], obs => some (xs, obs)
  | xs, (k, x) :: ps, obs => match nth xs k with
    | some _ => match toIV st 8 (ev x) with
      | some y => putElems ev st sz (setL xs k y) ps (oD (sizeI y = sz) :: obs)
      | none => none
    | none => none

def repL (n : Nat) (z : IV) : List IV :=
  match n with
  | 0 => []
  | n + 1 => z :: repL n z

def asI (p : PV) : Option Int :=
  match p with
  | .im (.v (.int _ n)) => some n
  | _ => none

/-- Is an interface value nil? -/
def nilQ : IV → Option Bool
  | .v .nilIface => some true
  | .ifc _ _ => some false
  | _ => none

/-- Are two interface values the same? Each nil, or of one of these integer types, or of another type. -/
def ieqQ (T : List (Nat × TyI)) : IV → IV → Option Bool
  | .v .nilIface, .v .nilIface => some true
  | .v .nilIface, .ifc _ _ => some false
  | .ifc _ _, .v .nilIface => some false
  | .ifc t x, .ifc u y => bif Nat.beq t u then (match getT T t, x, y with
      | some ⟨.int _, _, _⟩, .v (.int j a), .v (.int k b) => bif kEq j k then some (a == b) else none
      | _, _, _ => none) else some false
  | _, _ => none

def isC : Operand → Bool
  | .const _ => true
  | _ => false

end Go.Eng
end

section
namespace Go.Eng
open Go Go.RowKit

abbrev Out := Option (PV × Eff × List Ob)

def ePick (c a b : PV) : Out :=
  match c, a, b with
  | .im (.v (.bool t)), .im (.v (.bool true)), .gd e (.im (.v (.bool w))) => some (.im (.v (.bool (t || w))), .no, [oD (t = false → e = true)])
  | .im (.v (.bool t)), .im (.v (.bool true)), .im (.v (.bool w)) => some (.im (.v (.bool (t || w))), .no, [])
  | .im (.v (.bool t)), .gd e (.im (.v (.bool u))), .im (.v (.bool false)) => some (.im (.v (.bool (t && u))), .no, [oD (t = true → e = true)])
  | .im (.v (.bool t)), .im (.v (.bool u)), .im (.v (.bool false)) => some (.im (.v (.bool (t && u))), .no, [])
  | _, _, _ => none

def ePickH (c a b : PV) (h : Hint) : Out :=
  match h with
  | .gt _ => match c with
    | .im (.v (.bool t)) => some (a, .no, [oD (t = true)])
    | _ => none
  | .gf => match c with
    | .im (.v (.bool t)) => some (b, .no, [oD (t = false)])
    | _ => none
  | _ => ePick c a b

def eLd (st : Sto) (sz : Nat) (agg : Bool) (a : PV) (h : Hint) : Out :=
  match a with
  | .im (.pim n x) => bif Nat.beq n sz && (x.isAgg == agg) then some (.im x, .no, []) else none
  | .ref id path => match getO st id with
    | some (.box _ n t) => match lastE path with
      | none => match getP n t path with
        | some (m, p) => bif Nat.beq m sz && (p.isAgg == agg) then some (p, .no, []) else none
        | none => none
      | some (pre, i, esz) => match getP n t pre, h with
        | some (_, .im (.arr esz' xs)), .iv x => bif Nat.beq esz sz && Nat.beq esz' sz && (x.isAgg == agg) then some (.im x, .no, [oG xs i x]) else none
        | _, _ => none
    | _ => none
  | .rel esz id i => match getO st id, h with
    | some (.row _ esz' xs _), .iv x => bif Nat.beq esz sz && Nat.beq esz' sz && (x.isAgg == agg) then some (.im x, .no, [oG xs i x]) else none
    | _, _ => none
  | _ => none

def plainP : PV → Bool
  | .unk => false
  | .gd _ _ => false
  | .tup _ => false
  | _ => true

def eSto (st : Sto) (sz : Nat) (a x : PV) (h : Hint) : Out :=
  match a with
  | .ref id path => match getO st id with
    | some (.box false n t) => match lastE path with
      | none => bif plainP x then (match getP n t path with
        | some (m, _) => bif Nat.beq m sz then (match setP t path x with
          | some z => some (.unk, .set id (.box false n z), [oD (sizeP x = sz)])
          | none => none) else none
        | none => none) else none
      | some (pre, i, esz) => match getP n t pre, toIV st 8 x, h with
        | some (_, .im (.arr esz' xs)), some y, .ivs xs' => bif Nat.beq esz sz && Nat.beq esz' sz then (match setP t pre (.im (.arr sz xs')) with
          | some z => some (.unk, .set id (.box false n z), [oL (setL xs i y) xs', oD (i < xs.length), oD (sizeI y = sz)])
          | none => none) else none
        | _, _, _ => none
    | _ => none
  | .rel esz id i => match getO st id, toIV st 8 x, h with
    | some (.row e esz' xs 0), some y, .ivs xs' => bif Nat.beq esz sz && Nat.beq esz' sz then
        some (.unk, .set id (.row e sz xs' 0), [oL (setL xs i y) xs', oD (i < xs.length), oD (sizeI y = sz)]) else none
    | _, _, _ => none
  | _ => none

def eFld (k off sz : Nat) (a : PV) : Out :=
  bif Nat.blt 0 sz then (match a with
    | .ref id path => some (.ref id (snoc path (.f k off)), .no, [])
    | .im (.pim _ (.st fs)) => match getFI fs k off 0 with
      | some (m, x) => bif Nat.beq m sz then some (.im (.pim sz x), .no, []) else none
      | none => none
    | _ => none) else none

def eIdxA (n sz : Nat) (a i : PV) (h : Hint) : Out :=
  match i with
  | .im (.v (.int _ iv)) => match a, h with
    | .ref id path, _ => some (.ref id (snoc path (.e iv.toNat sz)), .no, [oD (0 ≤ iv), oD (iv < (n : Int))])
    | .im (.pim _ (.arr sz' xs)), .iv x => bif Nat.beq sz sz' then some (.im (.pim sz x), .no, [oD (0 ≤ iv), oD (iv < (n : Int)), oG xs iv.toNat x]) else none
    | _, _ => none
  | _ => none

def eIdxS (st : Sto) (sz : Nat) (x i : PV) (h : Hint) : Out :=
  match i with
  | .im (.v (.int _ iv)) => match x, h with
    | .im (.sl sz' xs), .iv y => bif Nat.beq sz sz' then some (.im (.pim sz y), .no, [oD (0 ≤ iv), oG xs iv.toNat y]) else none
    | .ownF sz' id, _ => match getO st id with
      | some (.row _ sz'' xs _) => bif Nat.beq sz sz' && Nat.beq sz sz'' then some (.rel sz id iv.toNat, .no, [oD (0 ≤ iv), oD (iv.toNat < xs.length)]) else none
      | _ => none
    | .own sz' id off len, _ => match getO st id with
      | some (.row _ sz'' _ _) => bif Nat.beq sz sz' && Nat.beq sz sz'' then some (.rel sz id (off + iv.toNat), .no, [oD (0 ≤ iv), oD (iv.toNat < len)]) else none
      | _ => none
    | _, _ => none
  | _ => none

/-- The bounds of a cut. -/
def cutB (lo hi : Option PV) (n : Int) : Option (Int × Int) :=
  match lo, hi with
  | none, none => some (0, n)
  | some p, none => match asI p with
    | some l => some (l, n)
    | none => none
  | none, some q => match asI q with
    | some h => some (0, h)
    | none => none
  | some p, some q => match asI p, asI q with
    | some l, some h => some (l, h)
    | _, _ => none

def eSlc (st : Sto) (sz : Nat) (x : PV) (lo hi : Option PV) (h : Hint) : Out :=
  match x with
  | .im (.sl sz' xs) => match cutB lo hi xs.length, h with
    | some (l, r), .ivs ys => bif Nat.beq sz sz' then some (.im (.sl sz ys), .no, [oD (0 ≤ l), oD (l ≤ r), oD (r ≤ (xs.length : Int)), oL ((xs.drop l.toNat).take (r.toNat - l.toNat)) ys]) else none
    | _, _ => none
  | .ownF sz' id => match getO st id with
    | some (.row _ sz'' xs _) => match cutB lo hi xs.length with
      | some (l, r) => bif Nat.beq sz sz' && Nat.beq sz sz'' then some (.own sz id l.toNat (r.toNat - l.toNat), .no, [oD (0 ≤ l), oD (l ≤ r), oD (r ≤ (xs.length : Int))]) else none
      | none => none
    | _ => none
  | .own sz' id off len => match getO st id with
    | some (.row _ sz'' _ _) => match cutB lo hi len with
      | some (l, r) => bif Nat.beq sz sz' && Nat.beq sz sz'' then some (.own sz id (off + l.toNat) (r.toNat - l.toNat), .no, [oD (0 ≤ l), oD (l ≤ r), oD (r ≤ (len : Int))]) else none
      | none => none
    | _ => none
  | _ => none

def eBin (op : BinOp) (x y : PV) : Out :=
  match op, x, y with
  | .shl, .im (.v (.int k a)), .im (.v (.int _ b)) => some (.im (.v (.int k (shlI k a b))), .no, [oD (0 ≤ b)])
  | .shr, .im (.v (.int k a)), .im (.v (.int _ b)) => some (.im (.v (.int k (shrI k a b))), .no, [oD (0 ≤ b)])
  | op, .im (.v (.int j a)), .im (.v (.int k b)) => bif kEq j k then (match binI op j a b with
    | some (v, obs) => some (.im (.v v), .no, obs)
    | none => none) else none
  | .eql, .im (.v (.string a)), .im (.v (.string b)) => some (.im (.v (.bool (a.data.toList == b.data.toList))), .no, [])
  | .neq, .im (.v (.string a)), .im (.v (.string b)) => some (.im (.v (.bool (!(a.data.toList == b.data.toList)))), .no, [])
  | .add, .im (.v (.string a)), .im (.v (.string b)) => some (.im (.v (.string (a ++ b))), .no, [oD (a.size + b.size ≤ 9223372036854775807)])
  | _, _, _ => none

def eBeq (neg : Bool) (x y : PV) : Out :=
  match x, y with
  | .im (.v (.bool a)), .im (.v (.bool b)) => match neg with
    | false => some (.im (.v (.bool (a == b))), .no, [])
    | true => some (.im (.v (.bool (!(a == b)))), .no, [])
  | _, _ => none

def eIeq (T : List (Nat × TyI)) (neg : Bool) (cst : Bool) (x y : PV) (h : Hint) : Out :=
  match cst with
  | true => match x, y, h with
    | .im a, .im b, .bool r => match neg with
      | false => some (.im (.v (.bool r)), .no, [oD (ieqQ T a b = some r)])
      | true => some (.im (.v (.bool r)), .no, [oD (ieqQ T a b = some (!r))])
    | _, _, _ => none
  | false => match x, y, h with
    | .im a, .im b, .bool r => match neg with
      | false => some (.im (.v (.bool r)), .no, [oD (ieqQ T a b = some r), oD (nilQ a = some true → nilQ b = some true → False)])
      | true => some (.im (.v (.bool r)), .no, [oD (ieqQ T a b = some (!r)), oD (nilQ a = some true → nilQ b = some true → False)])
    | _, _, _ => none

def eUn (op : UnOp) (x : PV) : Out :=
  match op, x with
  | .not, .im (.v (.bool b)) => some (.im (.v (.bool (!b))), .no, [])
  | .neg, .im (.v (.int k n)) => some (.im (.v (.int k (k.wrap (0 - n)))), .no, [])
  | .xor, .im (.v (.int k n)) => some (.im (.v (.int k (bitI .xor k (if k.signed then -1 else k.max) n))), .no, [])
  | _, _ => none

def eMki (t : TypeId) (x : PV) : Out :=
  match x with
  | .im x => bif x.isAgg then none else some (.im (.ifc t x), .no, [])
  | .ref id path => some (.ifc t (.ref id path), .no, [])
  | _ => none

def nthP : List PV → Nat → Option PV
  | [], _ => none
  | x :: _, 0 => some x
  | _ :: xs, n + 1 => nthP xs n

def eExt (x : PV) (i : Nat) : Out :=
  match x with
  | .tup ps => match nthP ps i with
    | some p => some (p, .no, [])
    | none => none
  | _ => none

def eLen (st : Sto) (x : PV) (h : Hint) : Out :=
  match x, h with
  | .im (.sl _ xs), .int n => some (.im (.v (.int .i64 n)), .no, [oD ((xs.length : Int) = n)])
  | .im (.v (.slice none 0 0)), _ => some (.im (.v (.int .i64 0)), .no, [])
  | .ownF _ id, .int n => match getO st id with
    | some (.row _ _ xs _) => some (.im (.v (.int .i64 n)), .no, [oD ((xs.length : Int) = n)])
    | _ => none
  | .own _ _ _ len, .int n => some (.im (.v (.int .i64 n)), .no, [oD ((len : Int) = n)])
  | _, _ => none

/-- The elements of what is appended. -/
def elemsOf (st : Sto) (sz : Nat) (y : PV) : Option (List IV) :=
  match y with
  | .im (.sl sz' ys) => bif Nat.beq sz sz' then some ys else none
  | .im (.v (.slice none 0 0)) => some []
  | .ownF sz' id => match getO st id with
    | some (.row _ sz'' ys _) => bif Nat.beq sz sz' && Nat.beq sz sz'' then some ys else none
    | _ => none
  | .own sz' id off len => match getO st id with
    | some (.row _ sz'' ys _) => bif Nat.beq sz sz' && Nat.beq sz sz'' then some ((ys.drop off).take len) else none
    | _ => none
  | _ => none

def eApp (st : Sto) (nx e sz bytes : Nat) (x y : PV) (h : Hint) : Out :=
  match elemsOf st sz y, h with
  | some ys, .ivs zs => match x with
    | .im (.v (.slice none 0 0)) => some (.ownF sz (nx + 1), .new2 (.row e sz zs 0), [oL ys zs, oD (zs.length * bytes ≤ 140737488355328), oD (zs.length ≤ 9223372036854775807)])
    | .ownF sz' id => match getO st id with
      | some (.row e' sz'' xs m) => bif Nat.beq sz sz' && Nat.beq sz sz'' && Nat.beq e e' then
          some (.ownF sz nx, .app id (.row e sz zs (appM m)), [oL (xs ++ ys) zs, oD (zs.length * bytes ≤ 140737488355328), oD (zs.length ≤ 9223372036854775807)]) else none
      | _ => none
    | _ => none
  | _, _ => none

def bytesOf (l : List Int) : ByteArray := ⟨⟨l.map fun n => UInt8.ofNat n.toNat⟩⟩

def eCvStr (st : Sto) (x : PV) (h : Hint) : Out :=
  match elemsOf st 1 x, h with
  | some ys, .ints l => some (.im (.v (.string (bytesOf l))), .no, [oL ys (l.map fun n => IV.v (.int .u8 n))])
  | _, _ => none

def eCvByt (x : PV) (h : Hint) : Out :=
  match x, h with
  | .im (.v (.string s)), .ints l => some (.im (.sl 1 (l.map fun n => IV.v (.int .u8 n))), .no, [oD (bytesOf l = s), oD (∀ n ∈ l, 0 ≤ n ∧ n < 256)])
  | _, _ => none

def eSnil (neg : Bool) (x : PV) : Out :=
  match x with
  | .im (.v (.slice none 0 0)) => some (.im (.v (.bool (!neg))), .no, [])
  | .im (.sl _ (_ :: _)) => some (.im (.v (.bool neg)), .no, [])
  | .im (.nn b _ _) => some (.im (.v (.bool (b != neg))), .no, [])
  | _ => none

def eMin (x y : PV) : Out :=
  match x, y with
  | .im (.v (.int k a)), .im (.v (.int _ b)) => some (.im (.v (.int k (if b < a then b else a))), .no, [])
  | _, _ => none

def capsOk : List PV → Bool
  | [] => true
  | x :: l => plainP x && (!x.isAgg && capsOk l)

def eMks (nx e sz bytes : Nat) (z : IV) (n c : PV) : Out :=
  match n, c with
  | .im (.v (.int _ a)), .im (.v (.int _ b)) => some (.ownF sz nx, .new (.row e sz (List.replicate a.toNat z) 0), [oD (0 ≤ a), oD (a = b), oD (a * bytes ≤ 140737488355328), oD (a ≤ 9223372036854775807)])
  | _, _ => none

section
variable (T : List (Nat × TyI))

def optP (ev : Operand → PV) : Option Operand → Option PV
  | none => none
  | some x => some (ev x)

def opE (c : COp) (ev : Operand → PV) (st : Sto) (nx : Nat) (h : Hint) : Out :=
  match c with
  | .mv x => match ev x with
    | .unk => none
    | p => some (p, .no, [])
  | .pick c a b => ePickH (ev c) (ev a) (ev b) h
  | .new n z => some (.ref nx [], .new (.box false n (.im z)), [])
  | .box n x => bif plainP (ev x) then some (.ref nx [], .new (.box false n (ev x)), [oD (sizeP (ev x) = n)]) else none
  | .bst fs ps => match putKids ev (imKids fs) ps [] with
    | some (gs, obs) => some (.st gs, .no, obs)
    | none => none
  | .barr sz zs ps => match putElems ev st sz zs ps [] with
    | some (xs, obs) => some (.im (.arr sz xs), .no, obs)
    | none => none
  | .bsl e sz len z ps => match putElems ev st sz (repL len z) ps [] with
    | some (xs, obs) => some (.ownF sz nx, .new (.row e sz xs 0), obs)
    | none => none
  | .ld sz agg a => eLd st sz agg (ev a) h
  | .sto sz a x => eSto st sz (ev a) (ev x) h
  | .fld k off sz a => eFld k off sz (ev a)
  | .idxA n sz a i => eIdxA n sz (ev a) (ev i) h
  | .idxS sz x i => eIdxS st sz (ev x) (ev i) h
  | .slc sz x lo hi => eSlc st sz (ev x) (optP ev lo) (optP ev hi) h
  | .bin op x y => eBin op (ev x) (ev y)
  | .beq neg x y => eBeq neg (ev x) (ev y)
  | .ieq neg x y => eIeq T neg (isC x || isC y) (ev x) (ev y) h
  | .un op x => eUn op (ev x)
  | .cvI k x => match ev x with
    | .im (.v (.int _ n)) => some (.im (.v (.int k (k.wrap n))), .no, [])
    | _ => none
  | .mki t x => eMki t (ev x)
  | .ext x i => eExt (ev x) i
  | .len x => eLen st (ev x) h
  | .lens x => match ev x with
    | .im (.v (.string s)) => some (.im (.v (.int .i64 s.size)), .no, [])
    | _ => none
  | .app e sz bytes x y => eApp st nx e sz bytes (ev x) (ev y) h
  | .mks e sz bytes z n c => eMks nx e sz bytes z (ev n) (ev c)
  | .cvStr x => eCvStr st (ev x) h
  | .cvByt e x => eCvByt (ev x) h
  | .snil neg x => eSnil neg (ev x)
  | .min x y => eMin (ev x) (ev y)
  | .mkf f caps => bif capsOk (caps.map ev) then some (.fn f (caps.map ev), .no, []) else none
  | .nck x => match ev x with
    | .ref id path => some (.ref id path, .no, [])
    | .im (.pim n x) => some (.im (.pim n x), .no, [])
    | _ => none
  | _ => none
end

def effS (st : Sto) (nx : Nat) : Eff → Sto
  | .no => st
  | .new o => (nx, o) :: st
  | .new2 o => (nx + 1, o) :: st
  | .set id o => setO st id o
  | .app id o => (nx, o) :: delO st id
  | .call st' _ => st'
def effN (nx : Nat) : Eff → Nat
  | .no => nx
  | .new _ => nx + 1
  | .new2 _ => nx + 2
  | .set _ _ => nx
  | .app _ _ => nx + 1
  | .call _ nx' => nx'

end Go.Eng
end

section
namespace Go.Eng
open Go Go.RowKit

section inv
variable {bs : Bs} {I : Im} {v : Value}

theorem PVal.v_inv {x : Value} (h : PVal bs I (.im (.v x)) v) : v = x ∧ x.oneCell' = true := by
  cases h with
  | agg _ cs ha _ => simp [PV.isAgg, IV.isAgg] at ha
  | one _ _ _ hc => cases hc.im_inv; exact ⟨rfl, by assumption⟩

theorem PVal.im_one {x : IV} (h : PVal bs I (.im x) v) (ha : x.isAgg = false) : RC I x [v] := by
  cases h with
  | agg _ cs hg _ => simp [PV.isAgg, ha] at hg
  | one _ _ _ hc => exact hc.im_inv

theorem PVal.cells {p : PV} (h : PVal bs I p v) (hp : plainP p = true) : PC bs I p v.cells.toList := by
  cases h with
  | agg _ cs _ hc => simpa [Value.cells] using hc
  | one _ _ _ hc =>
    have h1 : v.oneCell' = true := hc.one v (by simp)
    cases v <;> first | (simpa [Value.cells] using hc) | (simp [Value.oneCell'] at h1)
  | tupN => simp [plainP] at hp
  | tupC => simp [plainP] at hp
  | unk => simp [plainP] at hp
  | gd => simp [plainP] at hp

theorem PVal.ref_inv {id : Nat} {path : List Stp} (h : PVal bs I (.ref id path) v) : ∃ b, v = .pointer (some ⟨b, offP path, none⟩) ∧ bs id = some (.pointer (some ⟨b, 0, none⟩)) := by
  cases h with
  | agg _ cs ha _ => simp [PV.isAgg] at ha
  | one _ _ _ hc => cases hc with | ref _ _ b hb => exact ⟨b, rfl, hb⟩

theorem PVal.rel_inv {sz id i : Nat} (h : PVal bs I (.rel sz id i) v) : ∃ b n cap, v = .pointer (some ⟨b, i * sz, none⟩) ∧ bs id = some (.slice (some ⟨b, 0, none⟩) n cap) := by
  cases h with
  | agg _ cs ha _ => simp [PV.isAgg] at ha
  | one _ _ _ hc => cases hc with | rel _ _ _ b n cap hb => exact ⟨b, n, cap, rfl, hb⟩

theorem PVal.ownF_inv {sz id : Nat} (h : PVal bs I (.ownF sz id) v) : ∃ a n cap, v = .slice a n cap ∧ bs id = some v := by
  cases h with
  | agg _ cs ha _ => simp [PV.isAgg] at ha
  | one _ _ _ hc => cases hc with | ownF _ _ a n cap hb => exact ⟨a, n, cap, rfl, hb⟩

theorem PVal.own_inv {sz id off len : Nat} (h : PVal bs I (.own sz id off len) v) : ∃ u, bs id = some u ∧ cutV u sz off len v := by
  cases h with
  | agg _ cs ha _ => simp [PV.isAgg] at ha
  | one _ _ _ hc => cases hc with | own _ _ _ _ u _ hb hc => exact ⟨u, hb, hc⟩

theorem PVal.pim_inv {n : Nat} {x : IV} (h : PVal bs I (.im (.pim n x)) v) : ∃ cs b o, v = .pointer (some ⟨b, o, none⟩) ∧ RC I x cs ∧ cs.length = n ∧ At I b o cs := by
  cases h with
  | agg _ cs ha _ => simp [PV.isAgg, IV.isAgg] at ha
  | one _ _ _ hc => cases hc.im_inv with | pim _ _ cs b o h1 h2 h3 => exact ⟨cs, b, o, rfl, h1, h2, h3⟩

theorem PVal.sl_inv {sz : Nat} {xs : List IV} (h : PVal bs I (.im (.sl sz xs)) v) : ∃ cs a b o cap, v = .slice a xs.length cap ∧ RC I (.arr sz xs) cs ∧ xs.length ≤ cap ∧ (xs ≠ [] → a = some ⟨b, o, none⟩) ∧ At I b o cs := by
  cases h with
  | agg _ cs ha _ => simp [PV.isAgg, IV.isAgg] at ha
  | one _ _ _ hc => cases hc.im_inv with | sl _ _ cs a b o cap h1 h2 h3 h4 => exact ⟨cs, a, b, o, cap, rfl, h1, h2, h3, h4⟩

theorem PVal.tup_inv {ps : List PV} (h : PVal bs I (.tup ps) v) : ∃ vs, v = .tuple ⟨vs⟩ ∧ ∀ i p, nthP ps i = some p → ∃ u, vs[i]? = some u ∧ PVal bs I p u := by
  induction ps generalizing v with
  | nil =>
    cases h with
    | agg _ cs ha _ => simp [PV.isAgg] at ha
    | one _ _ _ hc => cases hc
    | tupN => exact ⟨[], rfl, fun i p hp => by simp [nthP] at hp⟩
  | cons q ps ih =>
    cases h with
    | agg _ cs ha _ => simp [PV.isAgg] at ha
    | one _ _ _ hc => cases hc
    | tupC _ _ u vs h1 h2 =>
      obtain ⟨vs', e, hv⟩ := ih h2
      simp only [Value.tuple.injEq, Array.mk.injEq] at e
      subst e
      refine ⟨u :: vs, rfl, fun i p hp => ?_⟩
      cases i with
      | zero => simp [nthP] at hp; subst hp; exact ⟨u, by simp, h1⟩
      | succ i => simp [nthP] at hp; simpa using hv i p hp

theorem PVal.gd_inv {e : Bool} {p : PV} (h : PVal bs I (.gd e p) v) (he : e = true) : PVal bs I p v := by
  cases h with
  | agg _ cs ha _ => simp [PV.isAgg] at ha
  | one _ _ _ hc => cases hc
  | gd _ _ _ hp => exact hp he

theorem PVal.im {x : IV} {cs : List Value} (h : RC I x cs) (ha : x.isAgg = true) : PVal bs I (.im x) (.agg ⟨cs⟩) := .agg _ cs ha (.im x cs h)
theorem PVal.val {x : Value} (h : x.oneCell' = true) : PVal bs I (.im (.v x)) x := .one _ x rfl (.im _ _ (.v x h))

end inv

/-- The environment of a walk. -/
structure Env where
  P : Program
  T : List (Nat × TyI)
  G : List (Nat × IV)
  B : Nat
  L : List Nat
  w0 : World
  I0 : Im

variable (E : Env)

abbrev Env.R (E : Env) := ORel E.G E.B E.L E.w0 E.I0

def OpOk (o : Oper) (st : Sto) (nx : Nat) (bs : Bs) (I : Im) (a : Act) (w : World) (p : PV) (eff : Eff) : Prop :=
  ∀ (K : Act → World → Prop) (Q : Exit → Act → World → Prop),
    (∀ v w' bs' I', bs.le bs' → I.le I' → E.R (effS st nx eff) (effN nx eff) bs' I' w' → PVal bs' I' p v → K (a.put o.dst v) w') → o.wp E.P a w K Q

section
variable {E} {o : Oper} {st : Sto} {nx : Nat} {bs : Bs} {I : Im} {a : Act} {w : World} {p : PV} {eff : Eff}

theorem OpOk.val {v : Value} (hr : (execOp a.eval o).run E.P w = .ok (.value v) w) (hR : E.R st nx bs I w) (hp : PVal bs I p v) : OpOk E o st nx bs I a w p .no := by
  intro K Q hK
  unfold Oper.wp
  rw [hr]
  exact hK v w bs I (Bs.le_refl _) (Im.le_refl _) hR hp

theorem OpOk.valw {v : Value} {w' : World} {bs' : Bs} {I' : Im} (hr : (execOp a.eval o).run E.P w = .ok (.value v) w') (hb : bs.le bs') (hI : I.le I')
    (hR : E.R (effS st nx eff) (effN nx eff) bs' I' w') (hp : PVal bs' I' p v) : OpOk E o st nx bs I a w p eff := by
  intro K Q hK
  unfold Oper.wp
  rw [hr]
  exact hK v w' bs' I' hb hI hR hp

theorem OpOk.skipw {w' : World} {bs' : Bs} {I' : Im} (hr : (execOp a.eval o).run E.P w = .ok .skip w') (hb : bs.le bs') (hI : I.le I')
    (hR : E.R (effS st nx eff) (effN nx eff) bs' I' w') : OpOk E o st nx bs I a w .unk eff := by
  intro K Q hK
  unfold Oper.wp
  rw [hr]
  exact hK undef w' bs' I' hb hI hR (.unk _)

variable (hT : TOk E.P E.T) (hR : E.R st nx bs I w) (ev : Operand → PV) (hev : ∀ x, PVal bs I (ev x) (a.eval x))
include hR hev

theorem ok_mv (x : Operand) (ho : o.op = .move x ∨ o.op = .assign x) (h : Hint) {obs : List Ob} (he : opE E.T (.mv x) ev st nx h = some (p, eff, obs)) : OpOk E o st nx bs I a w p eff := by
  simp only [opE] at he
  have : eff = .no ∧ PVal bs I p (a.eval x) := by
    have := hev x
    cases hx : ev x <;> rw [hx] at he this <;> simp at he <;> obtain ⟨rfl, rfl, _⟩ := he <;> exact ⟨rfl, this⟩
  obtain ⟨rfl, hp⟩ := this
  refine OpOk.val ?_ hR hp
  rcases ho with ho | ho <;> simp [execOp, ho]

theorem ok_pick (c x y : Operand) (ho : o.op = .pick c x y) {obs : List Ob} (he : ePick (ev c) (ev x) (ev y) = some (p, eff, obs)) (hob : ∀ q ∈ obs.map Ob.P, q) : OpOk E o st nx bs I a w p eff := by
  have hc := hev c
  have hx := hev x
  have hy := hev y
  have run : ∀ t : Bool, a.eval c = .bool t → (execOp a.eval o).run E.P w = .ok (.value (if t then a.eval x else a.eval y)) w := by
    intro t ht
    simp [execOp, ho, asBool, ht]
  have fin : ∀ (t r : Bool), a.eval c = .bool t → (if t then a.eval x else a.eval y) = .bool r → p = .im (.v (.bool r)) → eff = .no → OpOk E o st nx bs I a w p eff := by
    rintro t r h1 h2 rfl rfl
    refine OpOk.val (run t h1) hR ?_
    rw [h2]; exact PVal.val rfl
  unfold ePick at he
  split at he
  · rename_i t e w' h1 h2 h3
    rw [h1] at hc; rw [h2] at hx; rw [h3] at hy
    simp only [Option.some.injEq, Prod.mk.injEq] at he
    obtain ⟨rfl, rfl, rfl⟩ := he
    have q : t = false → e = true := hob _ (List.mem_singleton.2 rfl)
    refine fin t (t || w') hc.v_inv.1 ?_ rfl rfl
    cases t
    · simpa using (hy.gd_inv (q rfl)).v_inv.1
    · simpa using hx.v_inv.1
  · rename_i t w' h1 h2 h3
    rw [h1] at hc; rw [h2] at hx; rw [h3] at hy
    simp only [Option.some.injEq, Prod.mk.injEq] at he
    obtain ⟨rfl, rfl, rfl⟩ := he
    refine fin t (t || w') hc.v_inv.1 ?_ rfl rfl
    cases t
    · simpa using hy.v_inv.1
    · simpa using hx.v_inv.1
  · rename_i t e u h1 h2 h3
    rw [h1] at hc; rw [h2] at hx; rw [h3] at hy
    simp only [Option.some.injEq, Prod.mk.injEq] at he
    obtain ⟨rfl, rfl, rfl⟩ := he
    have q : t = true → e = true := hob _ (List.mem_singleton.2 rfl)
    refine fin t (t && u) hc.v_inv.1 ?_ rfl rfl
    cases t
    · simpa using hy.v_inv.1
    · simpa using (hx.gd_inv (q rfl)).v_inv.1
  · rename_i t u _ h1 h2 h3
    rw [h1] at hc; rw [h2] at hx; rw [h3] at hy
    simp only [Option.some.injEq, Prod.mk.injEq] at he
    obtain ⟨rfl, rfl, rfl⟩ := he
    refine fin t (t && u) hc.v_inv.1 ?_ rfl rfl
    cases t
    · simpa using hy.v_inv.1
    · simpa using hx.v_inv.1
  · cases he

theorem ok_ext (x : Operand) (i : Nat) (ho : o.op = .extract x i) {obs : List Ob} (he : eExt (ev x) i = some (p, eff, obs)) : OpOk E o st nx bs I a w p eff := by
  have hx := hev x
  unfold eExt at he
  split at he
  · rename_i ps hps
    rw [hps] at hx
    obtain ⟨vs, hv, hget⟩ := hx.tup_inv
    split at he
    · rename_i q hq
      simp only [Option.some.injEq, Prod.mk.injEq] at he
      obtain ⟨rfl, rfl, rfl⟩ := he
      obtain ⟨u, hu, hp⟩ := hget i q hq
      refine OpOk.val ?_ hR hp
      simp [execOp, ho, hv, Instr.extract, hu]
    · cases he
  · cases he

omit hR hev in
theorem run_eql_bool (t : TypeId) (ht : E.P.underlying t = some .bool) (d : Nat) (c e : Bool) : (Op.equalIn (d + 1) t (.bool c) (.bool e)).run E.P w = .ok (c == e) w := by
  simp [Op.equalIn, run_underlying ht]

theorem ok_beq (neg : Bool) (x y : Operand) (t u : TypeId) (ht : E.P.underlying t = some .bool) (ho : o.op = .binOp (if neg then .neq else .eql) t x y u) {obs : List Ob}
    (he : eBeq neg (ev x) (ev y) = some (p, eff, obs)) : OpOk E o st nx bs I a w p eff := by
  have hx := hev x
  have hy := hev y
  unfold eBeq at he
  split at he
  · rename_i c d h1 h2
    rw [h1] at hx; rw [h2] at hy
    have e1 := hx.v_inv.1
    have e2 := hy.v_inv.1
    cases neg
    · simp only [Option.some.injEq, Prod.mk.injEq] at he
      obtain ⟨rfl, rfl, rfl⟩ := he
      refine OpOk.val ?_ hR (PVal.val rfl)
      simp [execOp, ho, e1, e2, eqGuard, binOp, Op.equal, Op.maxDepth, run_eql_bool t ht 9999]
    · simp only [Option.some.injEq, Prod.mk.injEq] at he
      obtain ⟨rfl, rfl, rfl⟩ := he
      refine OpOk.val ?_ hR (PVal.val rfl)
      simp [execOp, ho, e1, e2, eqGuard, binOp, Op.equal, Op.maxDepth, run_eql_bool t ht 9999]
  · cases he

theorem ok_un (op : UnOp) (t : TypeId) (x : Operand) (ho : o.op = .unOp op t x) {obs : List Ob} (he : eUn op (ev x) = some (p, eff, obs)) : OpOk E o st nx bs I a w p eff := by
  have hx := hev x
  unfold eUn at he
  split at he
  · rename_i b h1
    rw [h1] at hx
    simp only [Option.some.injEq, Prod.mk.injEq] at he
    obtain ⟨rfl, rfl, rfl⟩ := he
    exact OpOk.val (by simp [execOp, ho, hx.v_inv.1, Op.unary]) hR (PVal.val rfl)
  · rename_i k n h1
    rw [h1] at hx
    simp only [Option.some.injEq, Prod.mk.injEq] at he
    obtain ⟨rfl, rfl, rfl⟩ := he
    exact OpOk.val (by simp [execOp, ho, hx.v_inv.1, Op.unary, Op.intArith]) hR (PVal.val rfl)
  · rename_i k n h1
    rw [h1] at hx
    simp only [Option.some.injEq, Prod.mk.injEq] at he
    obtain ⟨rfl, rfl, rfl⟩ := he
    exact OpOk.val (by simp [execOp, ho, hx.v_inv.1, Op.unary, Op.intBits, bitI]) hR (PVal.val rfl)
  · cases he

theorem ok_cvI (k j : IntKind) (x : Operand) (s d : TypeId) (hs : E.P.underlying s = some (.int j)) (hd : E.P.underlying d = some (.int k)) (ho : o.op = .convert s d x) (h : Hint) {obs : List Ob}
    (he : opE E.T (.cvI k x) ev st nx h = some (p, eff, obs)) : OpOk E o st nx bs I a w p eff := by
  have hx := hev x
  simp only [opE] at he
  split at he
  · rename_i j' n h1
    rw [h1] at hx
    simp only [Option.some.injEq, Prod.mk.injEq] at he
    obtain ⟨rfl, rfl, rfl⟩ := he
    exact OpOk.val (by simp [execOp, ho, hx.v_inv.1, convert, run_underlying hs, run_underlying hd, Conv.intToInt]) hR (PVal.val rfl)
  · cases he

theorem ok_bin (op : BinOp) (x y : Operand) (t u : TypeId) (ho : o.op = .binOp op t x y u) {obs : List Ob}
    (he : eBin op (ev x) (ev y) = some (p, eff, obs)) (hob : ∀ q ∈ obs.map Ob.P, q) : OpOk E o st nx bs I a w p eff := by
  have hx := hev x
  have hy := hev y
  unfold eBin at he
  split at he
  · rename_i k c j d h1 h2
    rw [h1] at hx; rw [h2] at hy
    simp only [Option.some.injEq, Prod.mk.injEq] at he
    obtain ⟨rfl, rfl, rfl⟩ := he
    have hd : 0 ≤ d := hob _ (by simp)
    exact OpOk.val (by simp [execOp, ho, hx.v_inv.1, hy.v_inv.1, eqGuard, binOp, Op.shift, shlI, show ¬ d < 0 by omega]) hR (PVal.val rfl)
  · rename_i k c j d h1 h2
    rw [h1] at hx; rw [h2] at hy
    simp only [Option.some.injEq, Prod.mk.injEq] at he
    obtain ⟨rfl, rfl, rfl⟩ := he
    have hd : 0 ≤ d := hob _ (by simp)
    exact OpOk.val (by simp [execOp, ho, hx.v_inv.1, hy.v_inv.1, eqGuard, binOp, Op.shift, shrI, show ¬ d < 0 by omega]) hR (PVal.val rfl)
  · rename_i op2 _ _ _ j c k d hn1 hn2 h1 h2
    rw [h1] at hx; rw [h2] at hy
    have e1 := hx.v_inv.1
    have e2 := hy.v_inv.1
    cases hk : kEq j k with
    | false => simp [hk] at he
    | true =>
      have hjk := kEq_ok hk
      subst hjk
      simp only [hk, cond_true] at he
      split at he
      · rename_i v obs' hb
        simp only [Option.some.injEq, Prod.mk.injEq] at he
        obtain ⟨rfl, rfl, rfl⟩ := he
        cases op2 <;> simp only [binI, Option.some.injEq, Prod.mk.injEq, reduceCtorEq] at hb
        all_goals (obtain ⟨rfl, rfl⟩ := hb)
        case quo =>
          have hd : d ≠ 0 := hob _ (by simp)
          exact OpOk.val (by simp [execOp, ho, e1, e2, eqGuard, binOp, Op.intDiv, hd]) hR (PVal.val rfl)
        case rem =>
          have hd : d ≠ 0 := hob _ (by simp)
          exact OpOk.val (by simp [execOp, ho, e1, e2, eqGuard, binOp, Op.intDiv, hd]) hR (PVal.val rfl)
        all_goals exact OpOk.val (by simp [execOp, ho, e1, e2, eqGuard, binOp, Op.intArith, Op.intBits, Op.intCmp, bitI]) hR (PVal.val rfl)
      · cases he
  · rename_i c d h1 h2
    rw [h1] at hx; rw [h2] at hy
    simp only [Option.some.injEq, Prod.mk.injEq] at he
    obtain ⟨rfl, rfl, rfl⟩ := he
    exact OpOk.val (by simp [execOp, ho, hx.v_inv.1, hy.v_inv.1, eqGuard, binOp, Op.stringOp, ByteArray.toList_eq]) hR (PVal.val rfl)
  · rename_i c d h1 h2
    rw [h1] at hx; rw [h2] at hy
    simp only [Option.some.injEq, Prod.mk.injEq] at he
    obtain ⟨rfl, rfl, rfl⟩ := he
    exact OpOk.val (by simp [execOp, ho, hx.v_inv.1, hy.v_inv.1, eqGuard, binOp, Op.stringOp, ByteArray.toList_eq]) hR (PVal.val rfl)
  · rename_i c d h1 h2
    rw [h1] at hx; rw [h2] at hy
    simp only [Option.some.injEq, Prod.mk.injEq] at he
    obtain ⟨rfl, rfl, rfl⟩ := he
    have hd : c.size + d.size ≤ 9223372036854775807 := hob _ (by simp)
    have hn : ¬ (((c.size + d.size : Nat) : Int) > IntKind.i64.max) := by
      have : IntKind.i64.max = 9223372036854775807 := rfl
      rw [this]; omega
    refine OpOk.val ?_ hR (PVal.val rfl)
    simp only [execOp, ho, hx.v_inv.1, hy.v_inv.1, eqGuard, binOp, Op.stringOp, if_neg hn]
    simp
  · cases he

end
end Go.Eng
end

section
namespace Go.Eng
open Go Go.RowKit

theorem TyOk.info {P : Program} {t : TypeId} {i : TyI} (h : TyOk P t i) : ∃ inf zv, P.info? t = some inf ∧ inf.size = i.size ∧ inf.zero = some zv ∧ constI i.z = some zv.cells.toList := by
  have h1 := h.nz
  have h2 := h.size
  have h3 := h.z
  unfold zeroC at h1 h3
  cases hi : P.info? t with
  | none => simp [hi] at h1
  | some inf =>
    cases hz : inf.zero with
    | none => simp [hi, hz] at h1
    | some zv =>
      simp [hi, hz] at h3
      simp [Program.cellsOf, hi] at h2
      exact ⟨inf, zv, rfl, h2, hz, h3.symm⟩

theorem td_sl {P : Program} {t : TypeId} {e n b : Nat} (h : tdOf P t = some (.sl e n b)) : P.underlying t = some (.slice e) ∧ P.cellsOf e = n ∧ P.bytesOf e = b := by
  unfold tdOf at h
  split at h <;> simp at h
  rename_i hu
  obtain ⟨rfl, rfl, rfl⟩ := h
  exact ⟨hu, rfl, rfl⟩
theorem td_arr {P : Program} {t : TypeId} {n e s : Nat} (h : tdOf P t = some (.arr n e s)) : P.underlying t = some (.array n e) ∧ P.cellsOf e = s := by
  unfold tdOf at h
  split at h <;> simp at h
  rename_i hu
  obtain ⟨rfl, rfl, rfl⟩ := h
  exact ⟨hu, rfl⟩
theorem td_int {P : Program} {t : TypeId} {k : IntKind} (h : tdOf P t = some (.int k)) : P.underlying t = some (.int k) := by
  unfold tdOf at h
  split at h <;> simp at h
  rename_i hu
  subst h; exact hu
theorem td_bool {P : Program} {t : TypeId} (h : tdOf P t = some .bool) : P.underlying t = some .bool := by
  unfold tdOf at h
  split at h <;> simp at h
  assumption
theorem td_str {P : Program} {t : TypeId} (h : tdOf P t = some .str) : P.underlying t = some .string := by
  unfold tdOf at h
  split at h <;> simp at h
  assumption
theorem td_ifc {P : Program} {t : TypeId} (h : tdOf P t = some .ifc) : ∃ ms, P.underlying t = some (.interface ms) := by
  unfold tdOf at h
  split at h <;> simp at h
  rename_i ms hu
  exact ⟨ms, hu⟩
theorem td_st {P : Program} {t : TypeId} {ds : List (Nat × Nat)} (h : tdOf P t = some (.st ds)) : ∃ fs, P.underlying t = some (.struct fs) ∧ ds = fs.toList.map fun f => (f.offset, P.cellsOf f.type) := by
  unfold tdOf at h
  split at h <;> simp at h
  rename_i fs hu
  exact ⟨fs, hu, h.symm⟩
theorem td_some {P : Program} {t : TypeId} {d : TD} (h : tdOf P t = some d) : ∃ u, P.underlying t = some u := by
  unfold tdOf at h
  cases hu : P.underlying t with
  | none => simp [hu] at h
  | some u => exact ⟨u, rfl⟩

theorem run_isAgg {P : Program} {t : TypeId} {d : TD} (h : tdOf P t = some d) (w : World) : (isAgg t).run P w = .ok d.isAgg w := by
  unfold tdOf at h
  unfold isAgg
  cases hu : P.underlying t with
  | none => simp [hu] at h
  | some u =>
    rw [hu] at h
    cases u <;> simp at h <;> subst h <;> simp [run_underlying hu, TD.isAgg]

theorem run_sizeOf {P : Program} {t : TypeId} {i : TypeInfo} (h : P.info? t = some i) (w : World) : (sizeOf t).run P w = .ok i.size w := by
  simp [sizeOf, typeInfo, h]

theorem add_lit (b o j : Nat) : (⟨b, o, none⟩ : Addr).add j = ⟨b, o + j, none⟩ := by unfold Addr.add; split <;> simp_all

theorem run_loadVar_at {P : Program} {t : TypeId} {i : TyI} (h : TyOk P t i) (w : World) (b o : Nat) (cs : List Value) (hc : ∀ j u, cs[j]? = some u → w.cell? ⟨b, o + j, none⟩ = some u) (hl : cs.length = i.size) :
    (i.td.isAgg = true → (loadVar t ⟨b, o, none⟩).run P w = .ok (.agg ⟨cs⟩) w) ∧ (i.td.isAgg = false → ∀ u, cs = [u] → (loadVar t ⟨b, o, none⟩).run P w = .ok u w) := by
  obtain ⟨inf, zv, h1, h2, _, _⟩ := h.info
  refine ⟨fun ha => ?_, fun ha u hu => ?_⟩
  · have hr := run_loadCells_list (P := P) w ⟨b, o, none⟩ cs (fun j u hu => by rw [add_lit]; exact hc j u hu)
    rw [hl, ← h2] at hr
    simp [loadVar, run_isAgg h.td, ha, run_sizeOf h1, hr]
  · subst hu
    have := hc 0 u rfl
    simp only [Nat.add_zero] at this
    simp [loadVar, run_isAgg h.td, ha, this]

section
variable {E : Env} {o : Oper} {st : Sto} {nx : Nat} {bs : Bs} {I : Im} {a : Act} {w : World} {p : PV} {eff : Eff}
variable (hT : TOk E.P E.T) (hR : E.R st nx bs I w) (ev : Operand → PV) (hev : ∀ x, PVal bs I (ev x) (a.eval x))

/-- What a tree at a place gives when it is loaded. -/
theorem load_tree {t : TypeId} {i : TyI} (hi : TyOk E.P t i) {x : Operand} (ho : o.op = .load t x) {b off : Nat} (hx : a.eval x = .pointer (some ⟨b, off, none⟩)) {q : PV} {cs : List Value}
    (hq : PC bs I q cs) (hl : cs.length = i.size) (hc : ∀ j u, cs[j]? = some u → w.cell? ⟨b, off + j, none⟩ = some u) (ha : q.isAgg = i.td.isAgg) (hR : E.R st nx bs I w) : OpOk E o st nx bs I a w q .no := by
  obtain ⟨h1, h2⟩ := run_loadVar_at hi w b off cs hc hl
  cases hg : i.td.isAgg with
  | true => exact OpOk.val (by simp [execOp, ho, hx, Instr.loadAt, Instr.sureAddr, h1 hg]) hR (.agg _ cs (by rw [ha, hg]) hq)
  | false =>
    have h3 := sizeP_ok hq
    have hone : ∃ u, cs = [u] := by
      have hs : sizeP q = 1 := by
        rw [hg] at ha
        cases q with
        | im x => cases x <;> first | rfl | (simp [PV.isAgg, IV.isAgg] at ha)
        | st => simp [PV.isAgg] at ha
        | _ => rfl
      rw [hs] at h3
      match cs, h3 with
      | [u], _ => exact ⟨u, rfl⟩
    obtain ⟨u, rfl⟩ := hone
    exact OpOk.val (by simp [execOp, ho, hx, Instr.loadAt, Instr.sureAddr, h2 hg u rfl]) hR (.one _ u (by rw [ha, hg]) hq)

theorem At.cell (hR : E.R st nx bs I w) {b o : Nat} {cs : List Value} (h : At I b o cs) : ∀ j u, cs[j]? = some u → w.cell? ⟨b, o + j, none⟩ = some u := by
  intro j u hu
  have hj := (List.getElem?_eq_some_iff.1 hu).1
  exact hR.imm b _ u (by rw [h j hj]; exact hu)

theorem lastE_off {path pre : List Stp} {i sz : Nat} (h : lastE path = some (pre, i, sz)) : offP path = offP pre + i * sz := by
  induction path generalizing pre with
  | nil => simp [lastE] at h
  | cons s l ih =>
    cases l with
    | nil =>
      cases s with
      | e j z => simp [lastE] at h; obtain ⟨rfl, rfl, rfl⟩ := h; simp [offP, Stp.delta]
      | f k off => simp [lastE] at h
    | cons s2 l =>
      simp only [lastE] at h
      split at h
      · rename_i p' i' z' hp
        simp only [Option.some.injEq, Prod.mk.injEq] at h
        obtain ⟨rfl, rfl, rfl⟩ := h
        simp only [offP]
        have := ih hp
        simp only [offP] at this
        omega
      · cases h

theorem offP_snoc (path : List Stp) (s : Stp) : offP (snoc path s) = offP path + s.delta := by
  induction path with
  | nil => simp [snoc, offP]
  | cons a l ih => simp [snoc, offP, ih, Nat.add_assoc]

include hR hev

theorem ok_ld {t : TypeId} {i : TyI} (hi : TyOk E.P t i) (x : Operand) (ho : o.op = .load t x) (h : Hint) {obs : List Ob}
    (he : eLd st i.size i.td.isAgg (ev x) h = some (p, eff, obs)) (hob : ∀ q ∈ obs.map Ob.P, q) : OpOk E o st nx bs I a w p eff := by
  have hx := hev x
  unfold eLd at he
  split at he
  · rename_i n y h1
    rw [h1] at hx
    cases hc : (Nat.beq n i.size && (y.isAgg == i.td.isAgg)) with
    | false => simp [hc] at he
    | true =>
      simp only [hc, cond_true, Option.some.injEq, Prod.mk.injEq] at he
      obtain ⟨rfl, rfl, rfl⟩ := he
      simp only [Bool.and_eq_true, beq_iff_eq] at hc
      obtain ⟨cs, b, off, hv, k1, k2, k3⟩ := hx.pim_inv
      exact load_tree hi ho hv (.im y cs k1) (k2.trans (Nat.eq_of_beq_eq_true hc.1)) (At.cell hR k3) hc.2 hR
  · rename_i id path h1
    rw [h1] at hx
    obtain ⟨b, hv, hb⟩ := hx.ref_inv
    split at he
    · rename_i fz n tr hob'
      obtain ⟨g, vs, T, e1, e2, e3, e4, _⟩ := hR.free hob' hb
      simp only [Value.pointer.injEq, Option.some.injEq, Addr.mk.injEq] at e1
      obtain ⟨rfl, _, _⟩ := e1
      have hcell : ∀ j u, vs[j]? = some u → w.cell? ⟨b, j, none⟩ = some u := fun j u hu => by
        rw [cell_of_row w b j _ T _ e2]; simpa using hu
      split at he
      · rename_i hl
        split at he
        · rename_i m q hg
          cases hc : (Nat.beq m i.size && (q.isAgg == i.td.isAgg)) with
          | false => simp [hc] at he
          | true =>
            simp only [hc, cond_true, Option.some.injEq, Prod.mk.injEq] at he
            obtain ⟨rfl, rfl, rfl⟩ := he
            simp only [Bool.and_eq_true, beq_iff_eq] at hc
            obtain ⟨cs, k1, k2, k3⟩ := getP_ok e3 e4 hg
            refine load_tree hi ho hv k1 (k2.trans (Nat.eq_of_beq_eq_true hc.1)) (fun j u hu => hcell _ u ?_) hc.2 hR
            rw [k3.2 j (List.getElem?_eq_some_iff.1 hu).1]; exact hu
        · cases he
      · rename_i pre j esz hl
        split at he
        · rename_i m esz' xs y hg
          cases hc : (Nat.beq esz i.size && Nat.beq esz' i.size && (y.isAgg == i.td.isAgg)) with
          | false => simp [hc] at he
          | true =>
            simp only [hc, cond_true, Option.some.injEq, Prod.mk.injEq] at he
            obtain ⟨rfl, rfl, rfl⟩ := he
            simp only [Bool.and_eq_true, beq_iff_eq] at hc
            have q1 := Nat.eq_of_beq_eq_true hc.1.1
            have q2 := Nat.eq_of_beq_eq_true hc.1.2
            have hxs : xs[j]? = some y := hob _ (List.mem_singleton.2 rfl)
            obtain ⟨cs, k1, k2, k3⟩ := getP_ok e3 e4 hg
            obtain ⟨c, r1, r2, r3⟩ := k1.im_inv.arr_get hxs
            have hlen := k1.im_inv.arr_length
            have hjl := (List.getElem?_eq_some_iff.1 hxs).1
            refine load_tree hi ho hv (.im y c r1) (r2.trans q2) (fun q u hu => hcell _ u ?_) hc.2 hR
            have hq := (List.getElem?_eq_some_iff.1 hu).1
            have hin : j * esz' + q < cs.length := by
              rw [hlen]
              calc j * esz' + q < j * esz' + esz' := by omega
                _ = (j + 1) * esz' := by rw [Nat.add_mul, Nat.one_mul]
                _ ≤ xs.length * esz' := Nat.mul_le_mul_right _ hjl
            rw [lastE_off hl, q1, ← q2, Nat.add_assoc, k3.2 _ hin, r3 q (by omega)]
            exact hu
        · cases he
    · cases he
  · rename_i esz id j h1
    rw [h1] at hx
    obtain ⟨b, n, cap, hv, hb⟩ := hx.rel_inv
    split at he
    · rename_i e esz' xs m y hob'
      cases hc : (Nat.beq esz i.size && Nat.beq esz' i.size && (y.isAgg == i.td.isAgg)) with
      | false => simp [hc] at he
      | true =>
        simp only [hc, cond_true, Option.some.injEq, Prod.mk.injEq] at he
        obtain ⟨rfl, rfl, rfl⟩ := he
        simp only [Bool.and_eq_true, beq_iff_eq] at hc
        have q1 := Nat.eq_of_beq_eq_true hc.1.1
        have q2 := Nat.eq_of_beq_eq_true hc.1.2
        have hxs : xs[j]? = some y := hob _ (List.mem_singleton.2 rfl)
        obtain ⟨cs, k1, k2, k3⟩ := hR.free hob' hb
        obtain ⟨c, r1, r2, r3⟩ := k2.arr_get hxs
        refine load_tree hi ho hv (.im y c r1) (r2.trans q2) (fun q u hu => ?_) hc.2 hR
        have hq := (List.getElem?_eq_some_iff.1 hu).1
        refine ownsRow_cell k1 (g := b) rfl ?_
        rw [q1, ← q2, r3 q (by omega)]; exact hu
    · cases he
  · cases he

theorem ok_fld {t : TypeId} {ds : List (Nat × Nat)} (ht : tdOf E.P t = some (.st ds)) (k off sz : Nat) (hk : ds[k]? = some (off, sz)) (hinfo : ∀ u, E.P.cellsOf u = sz → 0 < sz → ∃ i, E.P.info? u = some i ∧ i.size = sz)
    (x : Operand) (ho : o.op = .fieldAddr t x k) {obs : List Ob} (he : eFld k off sz (ev x) = some (p, eff, obs)) : OpOk E o st nx bs I a w p eff := by
  have hx := hev x
  obtain ⟨fs, hu, hds⟩ := td_st ht
  unfold eFld at he
  cases hz : Nat.blt 0 sz with
  | false => simp [hz] at he
  | true =>
    have hz0 : 0 < sz := by have : 1 ≤ sz := by simpa [Nat.blt] using hz
                            omega
    simp only [hz, cond_true] at he
    have hf : ∃ f, fs[k]? = some f ∧ f.offset = off ∧ E.P.cellsOf f.type = sz := by
      rw [hds, List.getElem?_map] at hk
      cases hq : fs.toList[k]? with
      | none => simp [hq] at hk
      | some f => simp [hq] at hk; exact ⟨f, by simpa using hq, hk.1, hk.2⟩
    obtain ⟨f, f1, f2, f3⟩ := hf
    obtain ⟨inf, i1, i2⟩ := hinfo f.type f3 hz0
    have run : ∀ b q, a.eval x = .pointer (some ⟨b, q, none⟩) → (execOp a.eval o).run E.P w = .ok (.value (.pointer (some ⟨b, q + off, none⟩))) w := by
      intro b q hv
      simp [execOp, ho, hv, Instr.fieldAt, run_underlying hu, f1, Instr.sureAddr, fieldPlace, run_sizeOf i1, i2, show sz ≠ 0 by omega, add_lit, f2]
    split at he
    · rename_i id path h1
      rw [h1] at hx
      obtain ⟨b, hv, hb⟩ := hx.ref_inv
      simp only [Option.some.injEq, Prod.mk.injEq] at he
      obtain ⟨rfl, rfl, rfl⟩ := he
      refine OpOk.val (run b _ hv) hR (.one _ _ rfl ?_)
      have := PC.ref (I := I) id (snoc path (.f k off)) b hb
      rwa [offP_snoc] at this
    · rename_i n gs h1
      rw [h1] at hx
      obtain ⟨cs, b, q, hv, k1, k2, k3⟩ := hx.pim_inv
      split at he
      · rename_i m y hg
        cases hm : Nat.beq m sz with
        | false => simp [hm] at he
        | true =>
          simp only [hm, cond_true, Option.some.injEq, Prod.mk.injEq] at he
          obtain ⟨rfl, rfl, rfl⟩ := he
          have hms := Nat.eq_of_beq_eq_true hm
          subst hms
          obtain ⟨c, r1, r2, _, r3⟩ := getFI_ok k1 hg
          refine OpOk.val (run b _ hv) hR (.one _ _ rfl (.im _ _ (.pim m y c b (q + off) r1 r2 ?_)))
          intro j hj
          have r31 := r3.1
          have r32 := r3.2 j hj
          simp only [Nat.sub_zero] at r31 r32
          rw [Nat.add_assoc, k3 _ (by omega), r32]
      · cases he
    · cases he

end
end Go.Eng
end

section
namespace Go.Eng
open Go Go.RowKit

theorem cells_info {P : Program} {e sz : Nat} (h : P.cellsOf e = sz) (hz : 0 < sz) : ∃ inf, P.info? e = some inf ∧ inf.size = sz := by
  unfold Program.cellsOf at h
  cases hi : P.info? e with
  | none => simp [hi] at h; omega
  | some inf => exact ⟨inf, rfl, by simpa [hi] using h⟩

section
variable {E : Env} {o : Oper} {st : Sto} {nx : Nat} {bs : Bs} {I : Im} {a : Act} {w : World} {p : PV} {eff : Eff}
variable (hR : E.R st nx bs I w) (ev : Operand → PV) (hev : ∀ x, PVal bs I (ev x) (a.eval x))

theorem ownsRow_inv {w : World} {e sz n : Nat} {v : Value} {cs : List Value} (h : w.ownsRow 0 e sz v n cs) : ∃ a cap, v = .slice a n cap ∧ n ≤ cap ∧ (0 < n → ∃ g, a = some ⟨g, 0, none⟩) ∧ (a = none ∨ ∃ g, a = some ⟨g, 0, none⟩) := by
  rcases h.2 with ⟨rfl, rfl⟩ | ⟨g, cap, cur, rfl, _, _, h1, _⟩
  · exact ⟨none, 0, rfl, Nat.le_refl _, fun h => absurd h (Nat.lt_irrefl _), .inl rfl⟩
  · exact ⟨some ⟨g, 0, none⟩, cap, rfl, h1, fun _ => ⟨g, rfl⟩, .inr ⟨g, rfl⟩⟩

include hR hev

theorem ok_idxA {t : TypeId} {n e sz : Nat} (ht : tdOf E.P t = some (.arr n e sz)) (hz : 0 < sz) (hn1 : 1 < n) (x i : Operand) (ho : o.op = .indexAddr t x i) (h : Hint) {obs : List Ob}
    (he : eIdxA n sz (ev x) (ev i) h = some (p, eff, obs)) (hob : ∀ q ∈ obs.map Ob.P, q) : OpOk E o st nx bs I a w p eff := by
  have hx := hev x
  have hi := hev i
  obtain ⟨hu, hc⟩ := td_arr ht
  obtain ⟨inf, i1, i2⟩ := cells_info hc hz
  unfold eIdxA at he
  split at he
  · rename_i k iv h1
    rw [h1] at hi
    have e1 := hi.v_inv.1
    have run : ∀ b q, a.eval x = .pointer (some ⟨b, q, none⟩) → 0 ≤ iv → iv < (n : Int) → (execOp a.eval o).run E.P w = .ok (.value (.pointer (some ⟨b, q + iv.toNat * sz, none⟩))) w := by
      intro b q hv g1 g2
      simp [execOp, ho, hv, e1, Instr.indexAt, asIntOf, run_underlying hu, Instr.sureAddr, g1, g2, run_sizeOf i1, i2, add_lit]
    split at he
    · rename_i id path h2
      rw [h2] at hx
      obtain ⟨b, hv, hb⟩ := hx.ref_inv
      simp only [Option.some.injEq, Prod.mk.injEq] at he
      obtain ⟨rfl, rfl, rfl⟩ := he
      have g1 : 0 ≤ iv := hob _ (by simp)
      have g2 : iv < (n : Int) := hob _ (by simp)
      refine OpOk.val (run b _ hv g1 g2) hR (.one _ _ rfl ?_)
      have := PC.ref (I := I) id (snoc path (.e iv.toNat sz)) b hb
      rwa [offP_snoc] at this
    · rename_i m sz' xs y h2
      rw [h2] at hx
      cases hc2 : Nat.beq sz sz' with
      | false => simp [hc2] at he
      | true =>
        have := Nat.eq_of_beq_eq_true hc2
        subst this
        simp only [hc2, cond_true, Option.some.injEq, Prod.mk.injEq] at he
        obtain ⟨rfl, rfl, rfl⟩ := he
        have g1 : 0 ≤ iv := hob _ (by simp)
        have g2 : iv < (n : Int) := hob _ (by simp)
        have g3 : xs[iv.toNat]? = some y := hob _ (by simp)
        obtain ⟨cs, b, q, hv, k1, k2, k3⟩ := hx.pim_inv
        obtain ⟨c, r1, r2, r3⟩ := k1.arr_get g3
        refine OpOk.val (run b q hv g1 g2) hR (.one _ _ rfl (.im _ _ (.pim sz y c b _ r1 r2 ?_)))
        have hl := k1.arr_length
        have hjl := (List.getElem?_eq_some_iff.1 g3).1
        intro j hj
        have hin : iv.toNat * sz + j < cs.length := by
          rw [hl]
          calc iv.toNat * sz + j < iv.toNat * sz + sz := by omega
            _ = (iv.toNat + 1) * sz := by rw [Nat.add_mul, Nat.one_mul]
            _ ≤ xs.length * sz := Nat.mul_le_mul_right _ hjl
        rw [Nat.add_assoc, k3 _ hin, r3 j (by omega)]
    · cases he
  · cases he

theorem ok_idxS {t : TypeId} {e sz eb : Nat} (ht : tdOf E.P t = some (.sl e sz eb)) (hz : 0 < sz) (x i : Operand) (ho : o.op = .indexAddr t x i) (h : Hint) {obs : List Ob}
    (he : eIdxS st sz (ev x) (ev i) h = some (p, eff, obs)) (hob : ∀ q ∈ obs.map Ob.P, q) : OpOk E o st nx bs I a w p eff := by
  have hx := hev x
  have hi := hev i
  obtain ⟨hu, hc, _⟩ := td_sl ht
  obtain ⟨inf, i1, i2⟩ := cells_info hc hz
  unfold eIdxS at he
  split at he
  · rename_i k iv h1
    rw [h1] at hi
    have e1 := hi.v_inv.1
    have run : ∀ b q n cap, a.eval x = .slice (some ⟨b, q, none⟩) n cap → 0 ≤ iv → iv.toNat < n → (execOp a.eval o).run E.P w = .ok (.value (.pointer (some ⟨b, q + iv.toNat * sz, none⟩))) w := by
      intro b q n cap hv g1 g2
      have g3 : iv < (n : Int) := by omega
      simp [execOp, ho, hv, e1, Instr.indexAt, asIntOf, run_underlying hu, g1, g3, run_sizeOf i1, i2, add_lit]
    split at he
    · rename_i sz' xs y h2
      rw [h2] at hx
      cases hc2 : Nat.beq sz sz' with
      | false => simp [hc2] at he
      | true =>
        have := Nat.eq_of_beq_eq_true hc2
        subst this
        simp only [hc2, cond_true, Option.some.injEq, Prod.mk.injEq] at he
        obtain ⟨rfl, rfl, rfl⟩ := he
        have g1 : 0 ≤ iv := hob _ (by simp)
        have g3 : xs[iv.toNat]? = some y := hob _ (by simp)
        have hjl := (List.getElem?_eq_some_iff.1 g3).1
        obtain ⟨cs, ad, b, q, cap, hv, k1, k2, k3, k4⟩ := hx.sl_inv
        have hne : xs ≠ [] := by intro e; subst e; simp at hjl
        rw [k3 hne] at hv
        obtain ⟨c, r1, r2, r3⟩ := k1.arr_get g3
        refine OpOk.val (run b q _ cap hv g1 hjl) hR (.one _ _ rfl (.im _ _ (.pim sz y c b _ r1 r2 ?_)))
        have hl := k1.arr_length
        intro j hj
        have hin : iv.toNat * sz + j < cs.length := by
          rw [hl]
          calc iv.toNat * sz + j < iv.toNat * sz + sz := by omega
            _ = (iv.toNat + 1) * sz := by rw [Nat.add_mul, Nat.one_mul]
            _ ≤ xs.length * sz := Nat.mul_le_mul_right _ hjl
        rw [Nat.add_assoc, k4 _ hin, r3 j (by omega)]
    · rename_i sz' id h2
      rw [h2] at hx
      split at he
      · rename_i e' sz'' xs m hob'
        cases hc2 : (Nat.beq sz sz' && Nat.beq sz sz'') with
        | false => simp [hc2] at he
        | true =>
          simp only [hc2, cond_true, Option.some.injEq, Prod.mk.injEq] at he
          obtain ⟨rfl, rfl, rfl⟩ := he
          simp only [Bool.and_eq_true] at hc2
          have q1 := Nat.eq_of_beq_eq_true hc2.1
          have q2 := Nat.eq_of_beq_eq_true hc2.2
          subst q1; subst q2
          have g1 : 0 ≤ iv := hob _ (by simp)
          have g3 : iv.toNat < xs.length := hob _ (by simp)
          obtain ⟨ad, n, cap, hv, hb⟩ := hx.ownF_inv
          obtain ⟨cs, k1, k2, k3⟩ := hR.free hob' hb
          obtain ⟨ad', cap', e2, _, k4, _⟩ := ownsRow_inv k1
          rw [hv] at e2
          simp only [Value.slice.injEq] at e2
          obtain ⟨rfl, rfl, rfl⟩ := e2
          obtain ⟨g, rfl⟩ := k4 (by omega)
          refine OpOk.val (by simpa using run g 0 _ cap hv g1 g3) hR (.one _ _ rfl ?_)
          exact PC.rel sz id iv.toNat g _ cap (by rw [hb, hv])
      · cases he
    · rename_i sz' id off len h2
      rw [h2] at hx
      split at he
      · rename_i e' sz'' xs m hob'
        cases hc2 : (Nat.beq sz sz' && Nat.beq sz sz'') with
        | false => simp [hc2] at he
        | true =>
          simp only [hc2, cond_true, Option.some.injEq, Prod.mk.injEq] at he
          obtain ⟨rfl, rfl, rfl⟩ := he
          simp only [Bool.and_eq_true] at hc2
          have q1 := Nat.eq_of_beq_eq_true hc2.1
          have q2 := Nat.eq_of_beq_eq_true hc2.2
          subst q1; subst q2
          have g1 : 0 ≤ iv := hob _ (by simp)
          have g3 : iv.toNat < len := hob _ (by simp)
          obtain ⟨u, hb, hcut⟩ := hx.own_inv
          obtain ⟨cs, k1, k2, k3⟩ := hR.free hob' hb
          obtain ⟨ad', cap', rfl, k0, k4, _⟩ := ownsRow_inv k1
          simp only [cutV] at hcut
          obtain ⟨c1, a2, hv, c2⟩ := hcut
          obtain ⟨g, rfl⟩ := k4 (by omega)
          rw [c2 (by omega), Option.map_some, add_lit] at hv
          simp only [Nat.zero_add] at hv
          refine OpOk.val (run g _ _ _ hv g1 g3) hR (.one _ _ rfl ?_)
          have := PC.rel (I := I) sz id (off + iv.toNat) g _ cap' hb
          rwa [Nat.add_mul] at this
      · cases he
    · cases he
  · cases he

theorem asI_eval {x : Operand} {n : Int} (h : asI (ev x) = some n) : ∃ k, a.eval x = .int k n := by
  have hx := hev x
  unfold asI at h
  split at h
  · rename_i k m h1
    simp at h; subst h
    rw [h1] at hx
    exact ⟨k, hx.v_inv.1⟩
  · cases h

theorem run_sliceBound {k : IntKind} {i : Int} {y : Nat} (c : BoundsCode) (h0 : 0 ≤ i) (h1 : i ≤ (y : Int)) : (Instr.sliceBound (.int k i) y c).run E.P w = .ok i.toNat w := by
  simp [Instr.sliceBound, asIntOf, h0, h1]

/-- The bounds of a cut come out as they are. -/
theorem run_bounds {lo hi : Option Operand} {len cap : Nat} {l r : Int} (hc : cutB (optP ev lo) (optP ev hi) len = some (l, r)) (h0 : 0 ≤ l) (h1 : l ≤ r) (h2 : r ≤ (len : Int)) (hcap : len ≤ cap) :
    (Instr.sliceBounds true len cap (lo.map a.eval) (hi.map a.eval) none).run E.P w = .ok (l.toNat, r.toNat, cap) w := by
  cases lo with
  | none =>
    cases hi with
    | none =>
      simp [cutB, optP] at hc
      obtain ⟨rfl, rfl⟩ := hc
      simp [Instr.sliceBounds]
    | some q =>
      simp only [cutB, optP] at hc
      split at hc
      · rename_i n hn
        simp at hc; obtain ⟨rfl, rfl⟩ := hc
        obtain ⟨k, hk⟩ := asI_eval hR ev hev hn
        simp [Instr.sliceBounds, hk, run_sliceBound hR ev hev (E := E) (w := w) _ h1 (show n ≤ (cap : Int) by omega)]
      · cases hc
  | some p =>
    cases hi with
    | none =>
      simp only [cutB, optP] at hc
      split at hc
      · rename_i n hn
        simp at hc; obtain ⟨rfl, rfl⟩ := hc
        obtain ⟨k, hk⟩ := asI_eval hR ev hev hn
        simp [Instr.sliceBounds, hk, run_sliceBound hR ev hev (E := E) (w := w) _ h0 h1]
      · cases hc
    | some q =>
      simp only [cutB, optP] at hc
      split at hc
      · rename_i n m hn hm
        simp at hc; obtain ⟨rfl, rfl⟩ := hc
        obtain ⟨k, hk⟩ := asI_eval hR ev hev hn
        obtain ⟨k', hk'⟩ := asI_eval hR ev hev hm
        simp [Instr.sliceBounds, hk, hk', run_sliceBound hR ev hev (E := E) (w := w) _ (show 0 ≤ m by omega) (show m ≤ (cap : Int) by omega), run_sliceBound hR ev hev (E := E) (w := w) _ h0 (show n ≤ (m.toNat : Int) by omega)]
      · cases hc

theorem ok_slc {t : TypeId} {e sz eb : Nat} (ht : tdOf E.P t = some (.sl e sz eb)) (hz : 0 < sz) (x : Operand) (lo hi : Option Operand) (ho : o.op = .slice t x lo hi none) (h : Hint) {obs : List Ob}
    (he : eSlc st sz (ev x) (optP ev lo) (optP ev hi) h = some (p, eff, obs)) (hob : ∀ q ∈ obs.map Ob.P, q) : OpOk E o st nx bs I a w p eff := by
  have hx := hev x
  obtain ⟨hu, hc, _⟩ := td_sl ht
  obtain ⟨inf, i1, i2⟩ := cells_info hc hz
  have run : ∀ ad len cap (l r : Int), a.eval x = .slice ad len cap → cutB (optP ev lo) (optP ev hi) len = some (l, r) → 0 ≤ l → l ≤ r → r ≤ (len : Int) → len ≤ cap →
      (execOp a.eval o).run E.P w = .ok (.value (.slice (if cap = l.toNat then ad else ad.map (·.add (l.toNat * sz))) (r.toNat - l.toNat) (cap - l.toNat))) w := by
    intro ad len cap l r hv hcb g0 g1 g2 g3
    simp [execOp, ho, hv, Instr.sliceAt, Instr.slice, run_underlying hu, run_bounds hR ev hev hcb g0 g1 g2 g3, run_sizeOf i1, i2]
  unfold eSlc at he
  split at he
  · rename_i sz' xs h2
    rw [h2] at hx
    split at he
    · rename_i l r ys hcb
      cases hc2 : Nat.beq sz sz' with
      | false => simp [hc2] at he
      | true =>
        have := Nat.eq_of_beq_eq_true hc2
        subst this
        simp only [hc2, cond_true, Option.some.injEq, Prod.mk.injEq] at he
        obtain ⟨rfl, rfl, rfl⟩ := he
        have g1 : 0 ≤ l := hob _ (by simp)
        have g2 : l ≤ r := hob _ (by simp)
        have g3 : r ≤ (xs.length : Int) := hob _ (by simp)
        have g4 : (xs.drop l.toNat).take (r.toNat - l.toNat) = ys := hob _ (by simp)
        obtain ⟨cs, ad, b, q, cap, hv, k1, k2, k3, k4⟩ := hx.sl_inv
        have hl : ys.length = r.toNat - l.toNat := by rw [← g4]; simp; omega
        refine OpOk.val (run ad _ cap l r hv hcb g1 g2 g3 k2) hR (.one _ _ rfl (.im _ _ ?_))
        have hr := k1.take_drop l.toNat (r.toNat - l.toNat)
        rw [g4] at hr
        have hres := RC.sl (I := I) sz ys _ (if cap = l.toNat then ad else ad.map (·.add (l.toNat * sz))) b (q + l.toNat * sz) (cap - l.toNat) hr (by omega) ?_ ?_
        · rw [hl] at hres; exact hres
        · intro hne
          have hpos : 0 < ys.length := List.length_pos_iff.2 hne
          have hxne : xs ≠ [] := by intro e; subst e; simp at g3; omega
          rw [if_neg (by omega), k3 hxne, Option.map_some, add_lit]
        · exact k4.drop (l.toNat * sz) _
    · cases he
  · rename_i sz' id h2
    rw [h2] at hx
    split at he
    · rename_i e' sz'' xs m hob'
      split at he
      · rename_i l r hcb
        cases hc2 : (Nat.beq sz sz' && Nat.beq sz sz'') with
        | false => simp [hc2] at he
        | true =>
          simp only [hc2, cond_true, Option.some.injEq, Prod.mk.injEq] at he
          obtain ⟨rfl, rfl, rfl⟩ := he
          simp only [Bool.and_eq_true] at hc2
          have q1 := Nat.eq_of_beq_eq_true hc2.1
          have q2 := Nat.eq_of_beq_eq_true hc2.2
          subst q1; subst q2
          have g1 : 0 ≤ l := hob _ (by simp)
          have g2 : l ≤ r := hob _ (by simp)
          have g3 : r ≤ (xs.length : Int) := hob _ (by simp)
          obtain ⟨ad, n, cap, hv, hb⟩ := hx.ownF_inv
          obtain ⟨cs, k1, k2, k3⟩ := hR.free hob' hb
          obtain ⟨ad', cap', e2, k0, k4, _⟩ := ownsRow_inv k1
          rw [hv] at e2
          simp only [Value.slice.injEq] at e2
          obtain ⟨rfl, rfl, rfl⟩ := e2
          refine OpOk.val (run ad _ cap l r hv hcb g1 g2 g3 k0) hR (.one _ _ rfl (.own sz id _ _ _ _ hb ?_))
          rw [hv]
          refine ⟨by omega, _, rfl, fun hlt => ?_⟩
          rw [if_neg (by omega)]
      · cases he
    · cases he
  · rename_i sz' id off len h2
    rw [h2] at hx
    split at he
    · rename_i e' sz'' xs m hob'
      split at he
      · rename_i l r hcb
        cases hc2 : (Nat.beq sz sz' && Nat.beq sz sz'') with
        | false => simp [hc2] at he
        | true =>
          simp only [hc2, cond_true, Option.some.injEq, Prod.mk.injEq] at he
          obtain ⟨rfl, rfl, rfl⟩ := he
          simp only [Bool.and_eq_true] at hc2
          have q1 := Nat.eq_of_beq_eq_true hc2.1
          have q2 := Nat.eq_of_beq_eq_true hc2.2
          subst q1; subst q2
          have g1 : 0 ≤ l := hob _ (by simp)
          have g2 : l ≤ r := hob _ (by simp)
          have g3 : r ≤ (len : Int) := hob _ (by simp)
          obtain ⟨u, hb, hcut⟩ := hx.own_inv
          obtain ⟨cs, k1, k2, k3⟩ := hR.free hob' hb
          obtain ⟨ad', cap', rfl, k0, k4, k5⟩ := ownsRow_inv k1
          simp only [cutV] at hcut
          obtain ⟨c1, a2, hv, c2⟩ := hcut
          refine OpOk.val (run a2 _ _ l r hv hcb g1 g2 g3 (by omega)) hR (.one _ _ rfl (.own sz id _ _ _ _ hb ?_))
          refine ⟨by omega, (if cap' - off = l.toNat then a2 else a2.map (·.add (l.toNat * sz))), by congr 1; omega, fun hlt => ?_⟩
          rw [if_neg (by omega), c2 (by omega)]
          rcases k5 with rfl | ⟨g, rfl⟩
          · rfl
          · simp only [Option.map_some, add_lit, Nat.add_mul, Nat.zero_add]
      · cases he
    · cases he
  · cases he

end
end Go.Eng
end

section
namespace Go.Eng
open Go Go.RowKit

/-- A row of elements, element by element. -/
theorem RC.arr_of {I : Im} {sz : Nat} {xs : List IV} {cs : List Value} (hl : cs.length = xs.length * sz)
    (h : ∀ i x, xs[i]? = some x → ∃ c, RC I x c ∧ c.length = sz ∧ ∀ j, j < sz → cs[i * sz + j]? = c[j]?) : RC I (.arr sz xs) cs := by
  induction xs generalizing cs with
  | nil => have : cs = [] := List.eq_nil_of_length_eq_zero (by simpa using hl); subst this; exact .arrN sz
  | cons x xs ih =>
    obtain ⟨c, h1, h2, h3⟩ := h 0 x rfl
    simp only [List.length_cons, Nat.add_mul, Nat.one_mul] at hl
    have e : cs = c ++ cs.drop sz := by
      apply List.ext_getElem?
      intro j
      rw [List.getElem?_append]
      split
      · have := h3 j (by omega); simpa using this
      · rw [List.getElem?_drop]; congr 1; omega
    rw [e]
    refine .arrC sz x xs c _ h1 h2 (ih (by simp; omega) fun i y hy => ?_)
    obtain ⟨d, k1, k2, k3⟩ := h (i + 1) y (by simpa using hy)
    refine ⟨d, k1, k2, fun j hj => ?_⟩
    rw [List.getElem?_drop, ← k3 j hj]
    congr 1
    simp [Nat.add_mul]; omega

theorem setL_eq (l : List IV) (k : Nat) (x : IV) : setL l k x = l.set k x := by
  induction l generalizing k with
  | nil => simp [setL]
  | cons y l ih => cases k <;> simp [setL, ih]

theorem RC.arr_set {I : Im} {sz : Nat} {xs : List IV} {cs ds : List Value} {k : Nat} {y : IV} (h : RC I (.arr sz xs) cs) (hk : k < xs.length) (hy : RC I y ds) (hd : ds.length = sz) :
    RC I (.arr sz (setL xs k y)) (over cs (k * sz) ds) ∧ k * sz + ds.length ≤ cs.length := by
  have hl := h.arr_length
  have hfit : k * sz + sz ≤ cs.length := by
    rw [hl]
    calc k * sz + sz = (k + 1) * sz := by rw [Nat.add_mul, Nat.one_mul]
      _ ≤ xs.length * sz := Nat.mul_le_mul_right _ hk
  refine ⟨?_, by omega⟩
  rw [setL_eq]
  refine RC.arr_of (by rw [over_length _ _ _ (by omega), hl]; simp) fun i x hx => ?_
  rw [List.getElem?_set] at hx
  by_cases e : k = i
  · subst e
    simp only [if_true, hk] at hx
    cases hx
    refine ⟨ds, hy, hd, fun j hj => ?_⟩
    simp only [over, List.getElem?_append, List.length_append, List.length_take]
    rw [if_pos (by omega), if_neg (by omega)]
    congr 1; omega
  · rw [if_neg e] at hx
    obtain ⟨c, k1, k2, k3⟩ := h.arr_get hx
    have hil := (List.getElem?_eq_some_iff.1 hx).1
    refine ⟨c, k1, k2, fun j hj => ?_⟩
    rw [← k3 j hj]
    simp only [over, List.getElem?_append, List.length_append, List.length_take, List.getElem?_take, List.getElem?_drop]
    rcases Nat.lt_or_gt_of_ne e with q | q
    · have : (k + 1) * sz ≤ i * sz := Nat.mul_le_mul_right _ q
      rw [Nat.add_mul, Nat.one_mul] at this
      rw [if_neg (by omega)]
      congr 1; omega
    · have : (i + 1) * sz ≤ k * sz := Nat.mul_le_mul_right _ q
      rw [Nat.add_mul, Nat.one_mul] at this
      rw [if_pos (by omega), if_pos (by omega), if_pos (by omega)]

/-- Laying a part's cells over others. -/
theorem foldl_over (off : Nat) : ∀ (l : List Value) (n : Nat) (arr : Array Value), off + n + l.length ≤ arr.size →
    ((l.zipIdx n).foldl (fun cs (p : Value × Nat) => cs.setIfInBounds (off + p.2) p.1) arr).toList = over arr.toList (off + n) l
  | [], n, arr, _ => by simp [over]
  | c :: l, n, arr, h => by
    simp only [List.length_cons] at h
    rw [List.zipIdx_cons, List.foldl_cons, foldl_over off l (n + 1) _ (by simp; omega)]
    simp only [over, Array.toList_setIfInBounds]
    have := list_seg_step arr.toList (off + n) c l (by simp; omega)
    simp only [List.length_cons]
    rw [← this]
    rfl

theorem fill_step {place : Nat → Option (Nat × Nat)} {cells : Array Value} {k off sz : Nat} {v : Value} {rest : List (Nat × Value)} (hp : place k = some (off, sz)) (hs : v.cells.size = sz) (hf : off + sz ≤ cells.size) :
    Instr.fill place cells ((k, v) :: rest) = Instr.fill place ⟨over cells.toList off v.cells.toList⟩ rest := by
  simp only [Instr.fill, hp, hs]
  rw [if_neg (by simp; omega)]
  congr 1
  apply Array.toList_inj.1
  have := foldl_over off v.cells.toList 0 cells (by simp; omega)
  simp only [Nat.add_zero] at this
  rw [← this, ← Array.foldl_toList, Array.toList_zipIdx]

theorem offsOk_get {ds : List (Nat × Nat)} {fs : List (Nat × IV)} {acc : Nat} (h : offsOk ds fs acc = true) {bs : Bs} {I : Im} : ∀ {k off sz : Nat}, ds[k]? = some (off, sz) →
    ∀ (gs : List (Nat × PV)), gs.map (·.1) = fs.map (·.1) → ∀ {n : Nat} {x : PV}, nth gs k = some (n, x) → n = sz ∧ getFP gs k off acc = some (n, x) := by
  induction ds generalizing fs acc with
  | nil => intro k off sz hk; simp at hk
  | cons d ds ih =>
    intro k off sz hk gs hgs n x hn
    obtain ⟨o, m⟩ := d
    cases fs with
    | nil => simp [offsOk] at h
    | cons f fs =>
      obtain ⟨m', z⟩ := f
      simp only [offsOk, Bool.and_eq_true] at h
      have q1 := Nat.eq_of_beq_eq_true h.1.1
      have q2 := Nat.eq_of_beq_eq_true h.1.2
      subst q1; subst q2
      cases gs with
      | nil => simp at hgs
      | cons g gs =>
        obtain ⟨m2, y⟩ := g
        simp only [List.map_cons, List.cons.injEq] at hgs
        obtain ⟨rfl, hgs⟩ := hgs
        cases k with
        | zero =>
          simp at hk
          obtain ⟨rfl, rfl⟩ := hk
          simp [nth] at hn
          obtain ⟨rfl, rfl⟩ := hn
          exact ⟨rfl, by simp [getFP]⟩
        | succ k =>
          simp at hk
          simp only [nth] at hn
          simpa [getFP] using ih h.2 hk gs hgs hn

theorem setFP_sizes (gs : List (Nat × PV)) (k : Nat) (p : PV) : (setFP gs k p).map (·.1) = gs.map (·.1) := by
  induction gs generalizing k with
  | nil => simp [setFP]
  | cons g gs ih => obtain ⟨n, x⟩ := g; cases k <;> simp [setFP, ih]

theorem imKids_sizes (fs : List (Nat × IV)) : (imKids fs).map (·.1) = fs.map (·.1) := by
  induction fs with
  | nil => rfl
  | cons f fs ih => obtain ⟨n, x⟩ := f; simp [imKids, ih]

section
variable {E : Env} {o : Oper} {st : Sto} {nx : Nat} {bs : Bs} {I : Im} {a : Act} {w : World} {p : PV} {eff : Eff}
variable (hR : E.R st nx bs I w) (ev : Operand → PV) (hev : ∀ x, PVal bs I (ev x) (a.eval x))

include hev in
theorem putKids_ok {ds : List (Nat × Nat)} {fs : List (Nat × IV)} (hds : offsOk ds fs 0 = true) {place : Nat → Option (Nat × Nat)} (hpl : ∀ k, place k = ds[k]?) :
    ∀ {ps : List (Nat × Operand)} {gs hs : List (Nat × PV)} {obs0 obs : List Ob} {cells : Array Value}, gs.map (·.1) = fs.map (·.1) → PC bs I (.st gs) cells.toList →
      putKids ev gs ps obs0 = some (hs, obs) → (∀ q ∈ obs.map Ob.P, q) →
      ∃ cells' : Array Value, Instr.fill place cells (ps.map fun q => (q.1, a.eval q.2)) = some cells' ∧ PC bs I (.st hs) cells'.toList ∧ (∀ q ∈ obs0.map Ob.P, q) := by
  intro ps
  induction ps with
  | nil =>
    intro gs hs obs0 obs cells _ hc h hob
    simp only [putKids, Option.some.injEq, Prod.mk.injEq] at h
    obtain ⟨rfl, rfl⟩ := h
    exact ⟨cells, rfl, hc, hob⟩
  | cons q ps ih =>
    intro gs hs obs0 obs cells hgs hc h hob
    obtain ⟨k, x⟩ := q
    simp only [putKids] at h
    split at h
    · rename_i n old hn
      have key : ∀ p, ev x = p → plainP p = true → putKids ev (setFP gs k p) ps (oD (sizeP p = n) :: obs0) = some (hs, obs) →
          ∃ cells' : Array Value, Instr.fill place cells (((k, x) :: ps).map fun q => (q.1, a.eval q.2)) = some cells' ∧ PC bs I (.st hs) cells'.toList ∧ (∀ q ∈ obs0.map Ob.P, q) := by
        intro p hp hpl2 h
        have hx := hev x
        rw [hp] at hx
        have hxc := hx.cells hpl2
        have hsz : ∀ {gs' : List (Nat × PV)} {ps' : List (Nat × Operand)} {ob1 ob2 : List Ob}, putKids ev gs' ps' ob1 = some (hs, ob2) → ∀ q ∈ ob1, q ∈ ob2 := by
          intro gs' ps'
          induction ps' generalizing gs' with
          | nil => intro ob1 ob2 h q hq; simp only [putKids, Option.some.injEq, Prod.mk.injEq] at h; obtain ⟨_, rfl⟩ := h; exact hq
          | cons r ps' ih2 =>
            intro ob1 ob2 h q hq
            obtain ⟨k', x'⟩ := r
            simp only [putKids] at h
            split at h
            · split at h
              · cases h
              · cases h
              · cases h
              · exact ih2 h q (List.mem_cons_of_mem _ hq)
            · cases h
        have hsize : sizeP p = n := hob _ (List.mem_map_of_mem (f := Ob.P) (hsz h (oD (sizeP p = n)) List.mem_cons_self))
        have hdk : ∃ off sz, ds[k]? = some (off, sz) := by
          have : k < gs.length := by rw [nth_eq] at hn; exact (List.getElem?_eq_some_iff.1 hn).1
          have hlen : ∀ {ds : List (Nat × Nat)} {fs : List (Nat × IV)} {acc : Nat}, offsOk ds fs acc = true → ds.length = fs.length := by
            intro ds
            induction ds with
            | nil => intro fs acc h; cases fs <;> simp [offsOk] at h ⊢
            | cons d ds ih3 =>
              intro fs acc h
              cases fs with
              | nil => simp [offsOk] at h
              | cons f fs => simp only [offsOk, Bool.and_eq_true] at h; simp [ih3 h.2]
          have hl2 : gs.length = fs.length := by have := congrArg List.length hgs; simpa using this
          have : k < ds.length := by rw [hlen hds]; omega
          exact ⟨ds[k].1, ds[k].2, by rw [List.getElem?_eq_getElem this]⟩
        obtain ⟨off, sz, hdk⟩ := hdk
        obtain ⟨rfl, hg⟩ := offsOk_get hds (bs := bs) (I := I) hdk gs hgs hn
        obtain ⟨c, c1, c2, _, c3⟩ := getFP_ok hc hg
        have hvl : (a.eval x).cells.toList.length = n := by rw [sizeP_ok hxc, hsize]
        have hnew := setFP_ok (c := c) hc hg hxc hvl
        have c31 := c3.1
        simp only [Nat.sub_zero] at hnew c31
        have hstep := fill_step (cells := cells) (v := a.eval x) (rest := ps.map fun q => (q.1, a.eval q.2)) (show place k = some (off, n) by rw [hpl, hdk]) (by simpa using hvl) (by simp at c31; omega)
        obtain ⟨cells', r1, r2, r3⟩ := ih (cells := ⟨over cells.toList off (a.eval x).cells.toList⟩) ((setFP_sizes gs k p).trans hgs) hnew h hob
        refine ⟨cells', ?_, r2, fun q hq => r3 q (List.mem_cons_of_mem _ hq)⟩
        simp only [List.map_cons]
        rw [hstep]; exact r1
      split at h
      · cases h
      · cases h
      · cases h
      · rename_i p hn1 hn2 hn3
        refine key (ev x) rfl ?_ h
        cases hp : ev x <;> first | rfl | skip
        · exact absurd hp (hn3 _)
        · exact absurd hp (hn2 _ _)
        · exact absurd hp hn1
    · cases h

include hR hev

theorem ok_new {e : TypeId} {i : TyI} (hi : TyOk E.P e i) {cs : List Value} (hcs : constI i.z = some cs) (ho : o.op = .alloc e) (h : Hint) {obs : List Ob}
    (he : opE E.T (.new cs.length i.z) ev st nx h = some (p, eff, obs)) : OpOk E o st nx bs I a w p eff := by
  simp only [opE, Option.some.injEq, Prod.mk.injEq] at he
  obtain ⟨rfl, rfl, rfl⟩ := he
  obtain ⟨inf, zv, h1, h2, h3, h4⟩ := hi.info
  rw [h4] at hcs
  cases hcs
  have hrc : RC I i.z zv.cells.toList := constI_ok h4
  have hN := ORel.newBox hR (.im i.z) zv.cells.toList e (.im _ _ hrc)
  refine OpOk.valw (w' := w.alloc (.cells ⟨zv.cells.toList⟩ e)) (v := .pointer (some ⟨w.heap.size, 0, none⟩)) ?_ (hR.le_upd _) (Im.le_refl _) hN (.one _ _ rfl ?_)
  · simp [execOp, ho, Instr.alloc, zeroValue, typeInfo, h1, h3, newVar, newRow]
  · exact PC.ref nx [] w.heap.size (by simp [updB])

theorem ok_box {e : TypeId} (n : Nat) (x : Operand) (ho : o.op = .box e x) (h : Hint) {obs : List Ob}
    (he : opE E.T (.box n x) ev st nx h = some (p, eff, obs)) (hob : ∀ q ∈ obs.map Ob.P, q) : OpOk E o st nx bs I a w p eff := by
  have hx := hev x
  simp only [opE] at he
  cases hp : plainP (ev x) with
  | false => simp [hp] at he
  | true =>
    simp only [hp, cond_true, Option.some.injEq, Prod.mk.injEq] at he
    obtain ⟨rfl, rfl, rfl⟩ := he
    have hc := hx.cells hp
    have hs : sizeP (ev x) = n := hob _ (List.mem_singleton.2 rfl)
    have hl := sizeP_ok hc
    have hN := ORel.newBox hR (ev x) (a.eval x).cells.toList e hc
    rw [hl, hs] at hN
    refine OpOk.valw (w' := w.alloc (.cells ⟨(a.eval x).cells.toList⟩ e)) (v := .pointer (some ⟨w.heap.size, 0, none⟩)) ?_ (hR.le_upd _) (Im.le_refl _) hN (.one _ _ rfl ?_)
    · simp [execOp, ho, Instr.box, newVar, newRow]
    · exact PC.ref nx [] w.heap.size (by simp [updB])

theorem ok_bst {t : TypeId} {i : TyI} {ds : List (Nat × Nat)} {fs : List (Nat × IV)} (hi : TyOk E.P t i) (htd : i.td = .st ds) (hz : i.z = .st fs) (hds : offsOk ds fs 0 = true)
    (hinfo : ∀ (k : Nat) (f : Nat × Nat), ds[k]? = some f → 0 < f.2) (ps : Array (Nat × Operand)) (ho : o.op = .build t ps) (h : Hint) {obs : List Ob}
    (he : opE E.T (.bst fs ps.toList) ev st nx h = some (p, eff, obs)) (hob : ∀ q ∈ obs.map Ob.P, q) : OpOk E o st nx bs I a w p eff := by
  simp only [opE] at he
  split at he
  · rename_i gs obs' hk
    simp only [Option.some.injEq, Prod.mk.injEq] at he
    obtain ⟨rfl, rfl, rfl⟩ := he
    obtain ⟨inf, zv, h1, h2, h3, h4⟩ := hi.info
    rw [hz] at h4
    have hrc : RC I (.st fs) zv.cells.toList := constI_ok h4
    have htd' := hi.td
    rw [htd] at htd'
    obtain ⟨fields, hu, hf⟩ := td_st htd'
    obtain ⟨cells', r1, r2, _⟩ := putKids_ok (I := I) ev hev hds (place := fun k => (fields.map fun f => (f.offset, E.P.cellsOf f.type))[k]?) (fun k => by rw [hf]; simp) (imKids_sizes fs) (imKids_ok hrc) hk hob
    have hmap : ∀ (l : List Field), (∀ f ∈ l, 0 < E.P.cellsOf f.type) → ∀ w : World, (l.mapM (m := Sem) fun f => Prod.mk f.offset <$> sizeOf f.type).run E.P w = .ok (l.map fun f => (f.offset, E.P.cellsOf f.type)) w := by
      intro l
      induction l with
      | nil => intro _ w; simp
      | cons f l ih =>
        intro hl w
        obtain ⟨inf', k1, k2⟩ := cells_info rfl (hl f (by simp))
        have ih' := ih (fun g hg => hl g (by simp [hg])) w
        simp [List.mapM_cons, run_sizeOf k1, k2, ih']
    have hpos : ∀ f ∈ fields.toList, 0 < E.P.cellsOf f.type := by
      intro f hfm
      obtain ⟨k, hk2⟩ := List.getElem?_of_mem hfm
      have := hinfo k (f.offset, E.P.cellsOf f.type) (by rw [hf, List.getElem?_map, hk2]; rfl)
      exact this
    refine OpOk.val (v := .agg cells') ?_ hR ?_
    · have hm : (fields.mapM (m := Sem) fun f => do pure (f.offset, ← sizeOf f.type)).run E.P w = .ok (fields.map fun f => (f.offset, E.P.cellsOf f.type)) w := by
        rw [Array.mapM_eq_mapM_toList]
        simp [hmap fields.toList hpos w]
        rw [← Array.toList_map, Array.toArray_toList]
      have hparts : (ps.map fun (q : Nat × Operand) => (q.1, a.eval q.2)).toList = ps.toList.map fun q => (q.1, a.eval q.2) := by simp
      simp only [execOp, ho, Instr.build, zeroValue, typeInfo, Sem.run_bind, run_program, Result.andThen_ok, h1, Sem.run_pure, h3, run_underlying hu]
      simp only [hm, Result.andThen_ok]
      have : (ps.map fun (x : Nat × Operand) => match x with | (i, x) => (i, a.eval x)).toList = ps.toList.map fun q => (q.1, a.eval q.2) := by simp
      rw [this, r1]
      simp
    · exact .agg _ cells'.toList rfl r2
  · cases he

end
end Go.Eng
end

section
namespace Go.Eng
open Go Go.RowKit

theorem toIV_agg {st : Sto} {k : Nat} {p : PV} {x : IV} (h : toIV st k p = some x) : x.isAgg = p.isAgg := by
  cases k with
  | zero => simp [toIV] at h
  | succ k =>
    cases p with
    | im y => simp [toIV] at h; subst h; rfl
    | st fs =>
      simp only [toIV] at h
      split at h
      · simp at h; subst h; rfl
      · cases h
    | ownF sz id =>
      simp only [toIV] at h
      split at h
      · rename_i sz' xs _
        cases hb : Nat.beq sz sz' <;> simp [hb] at h
        subst h; rfl
      · cases h
    | own sz id off len =>
      simp only [toIV] at h
      split at h
      · rename_i sz' xs _
        cases hb : Nat.beq sz sz' <;> simp [hb] at h
        subst h; rfl
      · cases h
    | ref id path =>
      cases path with
      | nil =>
        simp only [toIV] at h
        split at h
        · split at h
          · simp at h; subst h; rfl
          · cases h
        · cases h
      | cons => simp [toIV] at h
    | ifc t q =>
      simp only [toIV] at h
      split at h
      · simp at h; subst h; rfl
      · cases h
    | fn f caps =>
      simp only [toIV] at h
      split at h
      · simp at h; subst h; rfl
      · cases h
    | _ => simp [toIV] at h

theorem plainP_toIV {st : Sto} {k : Nat} {p : PV} {x : IV} (h : toIV st k p = some x) : plainP p = true := by
  cases k with
  | zero => simp [toIV] at h
  | succ k => cases p <;> first | rfl | (simp [toIV] at h)

section
variable {E : Env} {o : Oper} {st : Sto} {nx : Nat} {bs : Bs} {I : Im} {a : Act} {w : World} {p : PV} {eff : Eff}
variable (hR : E.R st nx bs I w) (ev : Operand → PV) (hev : ∀ x, PVal bs I (ev x) (a.eval x))

include hR hev in
theorem putElems_ok {sz : Nat} {place : Nat → Option (Nat × Nat)} (hpl : ∀ k, place k = some (k * sz, sz)) :
    ∀ {ps : List (Nat × Operand)} {xs ys : List IV} {obs0 obs : List Ob} {cells : Array Value}, RC I (.arr sz xs) cells.toList →
      putElems ev st sz xs ps obs0 = some (ys, obs) → (∀ q ∈ obs.map Ob.P, q) →
      ∃ cells' : Array Value, Instr.fill place cells (ps.map fun q => (q.1, a.eval q.2)) = some cells' ∧ RC I (.arr sz ys) cells'.toList ∧ ys.length = xs.length := by
  have hsz : ∀ {ps' : List (Nat × Operand)} {xs ys : List IV} {ob1 ob2 : List Ob}, putElems ev st sz xs ps' ob1 = some (ys, ob2) → ∀ q ∈ ob1, q ∈ ob2 := by
    intro ps'
    induction ps' with
    | nil => intro xs ys ob1 ob2 h q hq; simp only [putElems, Option.some.injEq, Prod.mk.injEq] at h; obtain ⟨_, rfl⟩ := h; exact hq
    | cons r ps' ih2 =>
      intro xs ys ob1 ob2 h q hq
      obtain ⟨k', x'⟩ := r
      simp only [putElems] at h
      split at h
      · split at h
        · exact ih2 h q (List.mem_cons_of_mem _ hq)
        · cases h
      · cases h
  intro ps
  induction ps with
  | nil =>
    intro xs ys obs0 obs cells hc h _
    simp only [putElems, Option.some.injEq, Prod.mk.injEq] at h
    obtain ⟨rfl, rfl⟩ := h
    exact ⟨cells, rfl, hc, rfl⟩
  | cons q ps ih =>
    intro xs ys obs0 obs cells hc h hob
    obtain ⟨k, x⟩ := q
    simp only [putElems] at h
    split at h
    · rename_i old hn
      split at h
      · rename_i y hy
        have hsize : sizeI y = sz := hob _ (List.mem_map_of_mem (f := Ob.P) (hsz h (oD (sizeI y = sz)) List.mem_cons_self))
        have hxc := (hev x).cells (plainP_toIV hy)
        have hyc := toIV_ok hR hxc hy
        have hl : (a.eval x).cells.toList.length = sz := by rw [sizeI_ok hyc, hsize]
        have hk : k < xs.length := by rw [nth_eq] at hn; exact (List.getElem?_eq_some_iff.1 hn).1
        obtain ⟨h1, h2⟩ := hc.arr_set hk hyc hl
        have hstep := fill_step (cells := cells) (v := a.eval x) (rest := ps.map fun q => (q.1, a.eval q.2)) (hpl k) (by simpa using hl) (by simp at h2 hl; omega)
        obtain ⟨cells', r1, r2, r3⟩ := ih (cells := ⟨over cells.toList (k * sz) (a.eval x).cells.toList⟩) h1 h hob
        refine ⟨cells', ?_, r2, ?_⟩
        · simp only [List.map_cons]
          rw [hstep]; exact r1
        · rw [r3, setL_eq]; simp
      · cases h
    · cases h

theorem parts_eq (ps : Array (Nat × Operand)) : (ps.map fun (x : Nat × Operand) => match x with | (i, x) => (i, a.eval x)).toList = ps.toList.map fun q => (q.1, a.eval q.2) := by simp

theorem repL_eq (n : Nat) (z : IV) : repL n z = List.replicate n z := by
  induction n with
  | zero => rfl
  | succ n ih => simp [repL, ih, List.replicate_succ]

/-- A row of zero elements. -/
theorem RC.made {I : Im} {z : IV} {cs : Array Value} {sz : Nat} (h : RC I z cs.toList) (hs : cs.size = sz) (hz : 0 < sz) (n : Nat) : RC I (.arr sz (List.replicate n z)) (madeCells cs (n * sz)).toList := by
  refine RC.arr_of (by simp [madeCells]) fun i x hx => ?_
  have hi : i < n ∧ z = x := by
    rw [List.getElem?_replicate] at hx
    split at hx
    · exact ⟨by assumption, by simpa using hx⟩
    · cases hx
  obtain ⟨hi, rfl⟩ := hi
  refine ⟨cs.toList, h, by simpa using hs, fun j hj => ?_⟩
  have hin : i * sz + j < n * sz := by
    calc i * sz + j < i * sz + sz := by omega
      _ = (i + 1) * sz := by rw [Nat.add_mul, Nat.one_mul]
      _ ≤ n * sz := Nat.mul_le_mul_right _ hi
  simp only [madeCells, Array.toList_map, List.getElem?_map, Array.toList_range, List.getElem?_range hin, Option.map_some]
  rw [hs, show (i * sz + j) % sz = j by rw [Nat.mul_comm, Nat.mul_add_mod]; exact Nat.mod_eq_of_lt hj]
  simp [hs, hj]

include hR hev

theorem ok_barr {t : TypeId} {i : TyI} {n e sz : Nat} {zs : List IV} (hi : TyOk E.P t i) (htd : i.td = .arr n e sz) (hz : i.z = .arr sz zs) (hsz : 0 < sz) (ps : Array (Nat × Operand)) (ho : o.op = .build t ps) (h : Hint)
    {obs : List Ob} (he : opE E.T (.barr sz zs ps.toList) ev st nx h = some (p, eff, obs)) (hob : ∀ q ∈ obs.map Ob.P, q) : OpOk E o st nx bs I a w p eff := by
  simp only [opE] at he
  split at he
  · rename_i xs obs' hk
    simp only [Option.some.injEq, Prod.mk.injEq] at he
    obtain ⟨rfl, rfl, rfl⟩ := he
    obtain ⟨inf, zv, h1, h2, h3, h4⟩ := hi.info
    rw [hz] at h4
    have hrc : RC I (.arr sz zs) zv.cells.toList := constI_ok h4
    have htd' := hi.td
    rw [htd] at htd'
    obtain ⟨hu, hce⟩ := td_arr htd'
    obtain ⟨inf', k1, k2⟩ := cells_info hce hsz
    obtain ⟨cells', r1, r2, _⟩ := putElems_ok hR ev hev (place := fun k => some (k * sz, sz)) (fun k => rfl) hrc hk hob
    refine OpOk.val (v := .agg cells') ?_ hR (.agg _ cells'.toList rfl (.im _ _ r2))
    simp only [execOp, ho, Instr.build, zeroValue, typeInfo, Sem.run_bind, run_program, Result.andThen_ok, h1, Sem.run_pure, h3, run_underlying hu, run_sizeOf k1, k2]
    rw [parts_eq, r1]
    simp
  · cases he

theorem ok_bsl {t e : TypeId} {i : TyI} {sz eb len : Nat} (hi : TyOk E.P e i) (htd : tdOf E.P t = some (.sl e sz eb)) {cs : List Value} (hcs : constI i.z = some cs) (hlen : cs.length = sz) (hfit : len * sz ≤ 16777216) (hsz : 0 < sz)
    (ps : Array (Nat × Operand)) (ho : o.op = .buildSlice t len ps) (h : Hint)
    {obs : List Ob} (he : opE E.T (.bsl e sz len i.z ps.toList) ev st nx h = some (p, eff, obs)) (hob : ∀ q ∈ obs.map Ob.P, q) : OpOk E o st nx bs I a w p eff := by
  simp only [opE] at he
  split at he
  · rename_i xs obs' hk
    simp only [Option.some.injEq, Prod.mk.injEq] at he
    obtain ⟨rfl, rfl, rfl⟩ := he
    obtain ⟨inf, zv, h1, h2, h3, h4⟩ := hi.info
    rw [h4] at hcs
    simp only [Option.some.injEq] at hcs
    have hzl : zv.cells.size = sz := by rw [← hlen, ← hcs]; simp
    have hrc : RC I i.z zv.cells.toList := constI_ok h4
    obtain ⟨hu, hce, _⟩ := td_sl htd
    obtain ⟨inf', k1, k2⟩ := cells_info hce hsz
    rw [h1] at k1; cases k1
    have hmade := RC.made hrc hzl hsz len
    rw [← repL_eq] at hmade
    obtain ⟨cells', r1, r2, r3⟩ := putElems_ok hR ev hev (place := fun k => some (k * sz, sz)) (fun k => rfl) hmade hk hob
    have hxl : xs.length = len := by rw [r3, repL_eq]; simp
    have hN := ORel.newRow hR e sz xs cells'.toList r2 (by rw [hxl]; simp only [maxLen]; have : len * 1 ≤ len * sz := Nat.mul_le_mul_left _ hsz; omega)
    refine OpOk.valw (w' := w.alloc (.cells ⟨cells'.toList⟩ e)) (v := .slice (some ⟨w.heap.size, 0, none⟩) len len) ?_ (hR.le_upd _) (Im.le_refl _) hN (.one _ _ rfl ?_)
    · simp only [execOp, ho, Instr.buildSlice, Sem.run_bind, Result.andThen_ok, run_underlying hu, run_sizeOf h1, k2]
      rw [if_neg (by omega)]
      by_cases hl0 : len = 0
      · subst hl0
        simp only [Nat.zero_mul, if_true, Sem.run_bind, Sem.run_pure, Result.andThen_ok]
        have hz0 : ((Array.range 0).map fun x => (#[] : Array Value)[x % (#[] : Array Value).size]!) = madeCells zv.cells (0 * sz) := by simp [madeCells]
        rw [hz0, parts_eq, r1]
        simp [newRow]
      · have : ¬ len * sz = 0 := by
          have : 0 < len * sz := Nat.mul_pos (by omega) hsz
          omega
        simp only [if_neg this, zeroValue, typeInfo, Sem.run_bind, run_program, Result.andThen_ok, h1, Sem.run_pure, h3]
        have hz0 : ((Array.range (len * sz)).map fun x => zv.cells[x % zv.cells.size]!) = madeCells zv.cells (len * sz) := rfl
        rw [hz0, parts_eq, r1]
        simp [newRow]
    · have := PC.ownF (I := I) (bs := updB bs nx (.slice (some ⟨w.heap.size, 0, none⟩) xs.length xs.length)) sz nx (some ⟨w.heap.size, 0, none⟩) xs.length xs.length (by simp [updB])
      rw [hxl] at this
      rw [hxl]; exact this
  · cases he

theorem run_storeVar_at {t : TypeId} {i : TyI} (hi : TyOk E.P t i) {g off : Nat} {T : TypeId} {cur : Array Value} {v : Value} (hg : w.heap[g]? = some (.cells cur T (0, 0))) (hl : v.cells.toList.length = i.size)
    (hf : off + v.cells.toList.length ≤ cur.size) (h1 : ∀ u ∈ v.cells.toList, u.oneCell' = true) :
    (storeVar t ⟨g, off, none⟩ v).run E.P w = .ok () (w.setRow g ⟨over cur.toList off v.cells.toList⟩) := by
  obtain ⟨inf, zv, k1, k2, _, _⟩ := hi.info
  have hst := run_storeCells_at E.P g off T v.cells.toList 0 cur w hg (by omega) h1
  simp only [Nat.add_zero] at hst
  have hs : v.cells.size = inf.size := by rw [k2, ← hl]; simp
  simp [storeVar, run_sizeOf k1, hs, hst, over]

theorem ok_sto {t : TypeId} {i : TyI} (hi : TyOk E.P t i) (hpos : 0 < i.size) (x y : Operand) (ho : o.op = .store t x y) (h : Hint) {obs : List Ob}
    (he : eSto st i.size (ev x) (ev y) h = some (p, eff, obs)) (hob : ∀ q ∈ obs.map Ob.P, q) : OpOk E o st nx bs I a w p eff := by
  have hx := hev x
  have hy := hev y
  unfold eSto at he
  split at he
  · rename_i id path h1
    rw [h1] at hx
    obtain ⟨b, hv, hb⟩ := hx.ref_inv
    split at he
    · rename_i n tr hob'
      obtain ⟨g, vs, T, e1, e2, e3, e4, _⟩ := hR.free hob' hb
      simp only [Value.pointer.injEq, Option.some.injEq, Addr.mk.injEq] at e1
      obtain ⟨rfl, _, _⟩ := e1
      split at he
      · rename_i hl
        cases hp : plainP (ev y) with
        | false => simp [hp] at he
        | true =>
          simp only [hp, cond_true] at he
          split at he
          · rename_i m q hg
            cases hm : Nat.beq m i.size with
            | false => simp [hm] at he
            | true =>
              have hms := Nat.eq_of_beq_eq_true hm
              simp only [hm, cond_true] at he
              split at he
              · rename_i z hz
                simp only [Option.some.injEq, Prod.mk.injEq] at he
                obtain ⟨rfl, rfl, rfl⟩ := he
                have hs : sizeP (ev y) = i.size := hob _ (List.mem_singleton.2 rfl)
                have hyc := hy.cells hp
                have hyl := sizeP_ok hyc
                obtain ⟨k1, k2⟩ := setP_ok e3 e4 hg hz hyc (by rw [hyl, hs, hms])
                have hN := hR.setBox hob' hb _ k1 (by rw [over_length _ _ _ k2, e4])
                have hrun := run_storeVar_at hR ev hev hi (v := a.eval y) e2 (by rw [hyl, hs]) (by simpa using k2) hyc.one
                exact OpOk.skipw (by simp [execOp, ho, hv, Instr.storeAt, Instr.sureAddr, hrun]) (Bs.le_refl _) (Im.le_refl _) hN
              · cases he
          · cases he
      · rename_i pre j esz hl
        split at he
        · rename_i m esz' xs y' xs' hg hy'
          cases hc : (Nat.beq esz i.size && Nat.beq esz' i.size) with
          | false => simp [hc] at he
          | true =>
            simp only [Bool.and_eq_true] at hc
            have q1 := Nat.eq_of_beq_eq_true hc.1
            have q2 := Nat.eq_of_beq_eq_true hc.2
            subst q1; subst q2
            simp only [Nat.beq_refl, Bool.and_self, cond_true] at he
            split at he
            · rename_i z hz
              simp only [Option.some.injEq, Prod.mk.injEq] at he
              obtain ⟨rfl, rfl, rfl⟩ := he
              have g1 : setL xs j y' = xs' := hob _ (by simp)
              have g2 : j < xs.length := hob _ (by simp)
              have g3 : sizeI y' = i.size := hob _ (by simp)
              have hyc := hy.cells (plainP_toIV hy')
              have hyi := toIV_ok hR hyc hy'
              have hyl := sizeI_ok hyi
              obtain ⟨cs, k1, k2, k3⟩ := getP_ok e3 e4 hg
              obtain ⟨r1, r2⟩ := k1.im_inv.arr_set g2 hyi (by rw [hyl, g3])
              rw [g1] at r1
              have hol := over_length cs (j * i.size) _ r2
              obtain ⟨s1, s2⟩ := setP_ok e3 e4 hg hz (PC.im _ _ r1) (by rw [hol, k2])
              have hN := hR.setBox hob' hb _ s1 (by rw [over_length _ _ _ s2, e4])
              have hoff := lastE_off hl
              have hfit : offP path + (a.eval y).cells.toList.length ≤ vs.length := by have := k3.1; omega
              have hrun := run_storeVar_at hR ev hev hi (v := a.eval y) (off := offP path) e2 (by rw [hyl, g3]) hfit hyc.one
              have heq : over vs (offP pre) (over cs (j * i.size) (a.eval y).cells.toList) = over vs (offP path) (a.eval y).cells.toList := by
                rw [hoff, over_sub k3 r2]
              rw [heq] at hN
              exact OpOk.skipw (by simp [execOp, ho, hv, Instr.storeAt, Instr.sureAddr, hrun]) (Bs.le_refl _) (Im.le_refl _) hN
            · cases he
        · cases he
    · cases he
  · rename_i esz id j h1
    rw [h1] at hx
    obtain ⟨b, n, cap, hv, hb⟩ := hx.rel_inv
    split at he
    · rename_i e esz' xs y' xs' hob' hy'
      cases hc : (Nat.beq esz i.size && Nat.beq esz' i.size) with
      | false => simp [hc] at he
      | true =>
        simp only [Bool.and_eq_true] at hc
        have q1 := Nat.eq_of_beq_eq_true hc.1
        have q2 := Nat.eq_of_beq_eq_true hc.2
        subst q1; subst q2
        simp only [Nat.beq_refl, Bool.and_self, cond_true, Option.some.injEq, Prod.mk.injEq] at he
        obtain ⟨rfl, rfl, rfl⟩ := he
        have g1 : setL xs j y' = xs' := hob _ (by simp)
        have g2 : j < xs.length := hob _ (by simp)
        have g3 : sizeI y' = i.size := hob _ (by simp)
        have hyc := hy.cells (plainP_toIV hy')
        have hyi := toIV_ok hR hyc hy'
        have hyl := sizeI_ok hyi
        obtain ⟨cs, k1, k2, k3⟩ := hR.free hob' hb
        obtain ⟨r1, r2⟩ := k2.arr_set g2 hyi (by rw [hyl, g3])
        rw [g1] at r1
        have hol := over_length cs (j * i.size) _ r2
        rcases k1.2 with ⟨e1, _⟩ | ⟨g, cap', cur, e1, c1, c2, c3, c4, c5, c6⟩
        · cases e1
        · simp only [Value.slice.injEq, Option.some.injEq, Addr.mk.injEq] at e1
          obtain ⟨⟨rfl, _, _⟩, rfl, rfl⟩ := e1
          have hcl : cs.length ≤ cur.size := by rw [k2.arr_length, c5]; exact Nat.mul_le_mul_right _ c3
          have hrun := run_storeVar_at hR ev hev hi (v := a.eval y) (off := j * i.size) c2 (by rw [hyl, g3]) (Nat.le_trans r2 hcl) hyc.one
          have hlx : xs'.length = xs.length := by rw [← g1, setL_eq]; simp
          have htake : (over cur.toList (j * i.size) (a.eval y).cells.toList).take (xs.length * i.size) = over cs (j * i.size) (a.eval y).cells.toList := by
            have hce : cs.length = xs.length * i.size := k2.arr_length
            rw [take_over (by rw [← hce]; exact r2) (by rw [← hce]; simpa using hcl), c6]
          have hN := hR.write (ob' := .row e i.size xs' 0) hob' hb rfl ⟨over cur.toList (j * i.size) (a.eval y).cells.toList⟩ (fun o u hu => by rw [(k3 b rfl).1 rfl o] at hu; cases hu) ?_
          · exact OpOk.skipw (by simp [execOp, ho, hv, Instr.storeAt, Instr.sureAddr, hrun]) (Bs.le_refl _) (Im.le_refl _) hN
          · refine ⟨over cs (j * i.size) (a.eval y).cells.toList, ⟨by rw [hol, hlx]; exact k2.arr_length, .inr ⟨b, cap, _, by rw [hlx], Nat.zero_le _, setRow_heap w b cur _ e _ c2, by rw [hlx]; exact c3, c4, ?_, ?_⟩⟩, r1, ?_⟩
            · have := over_length cur.toList (j * i.size) (a.eval y).cells.toList (by simpa using Nat.le_trans r2 hcl)
              simp at this
              simpa using this.trans c5
            · rw [hlx]; exact htake
            · intro b' hb'
              refine ⟨fun _ => (k3 b' hb').1 rfl, fun o u hu => ?_, fun hm => by cases hm⟩
              rw [(k3 b' hb').1 rfl o] at hu; cases hu
    · cases he
  · cases he

end
end Go.Eng
end

section
namespace Go.Eng
open Go Go.RowKit

theorem TyOk.comp {P : Program} {t : TypeId} {i : TyI} (h : TyOk P t i) {k : IntKind} (hk : i.td = .int k) : ∃ inf, P.info? t = some inf ∧ inf.comparable = true := by
  have := h.cmp
  rw [hk] at this
  simp only at this
  cases hi : P.info? t with
  | none => simp [hi] at this
  | some inf => simp [hi] at this; exact ⟨inf, rfl, this⟩

section
variable {E : Env} {o : Oper} {st : Sto} {nx : Nat} {bs : Bs} {I : Im} {a : Act} {w : World} {p : PV} {eff : Eff}
variable (hR : E.R st nx bs I w) (ev : Operand → PV) (hev : ∀ x, PVal bs I (ev x) (a.eval x))
include hR hev

theorem ok_mki {t : TypeId} {i : TyI} (hi : TyOk E.P t i) (hn : i.td ≠ .ifc) (x : Operand) (ho : o.op = .makeInterface t x) {obs : List Ob}
    (he : eMki t (ev x) = some (p, eff, obs)) : OpOk E o st nx bs I a w p eff := by
  have hx := hev x
  have htd := hi.td
  have run : (execOp a.eval o).run E.P w = .ok (.value (.iface t (a.eval x))) w := by
    unfold tdOf at htd
    cases hu : E.P.underlying t with
    | none => simp [hu] at htd
    | some u =>
      rw [hu] at htd
      cases u <;> simp at htd <;> first | (exact absurd htd.symm hn) | simp [execOp, ho, Instr.makeInterface, run_underlying hu]
  unfold eMki at he
  split at he
  · rename_i y h1
    rw [h1] at hx
    cases ha : y.isAgg with
    | true => simp [ha] at he
    | false =>
      simp only [ha, cond_false, Option.some.injEq, Prod.mk.injEq] at he
      obtain ⟨rfl, rfl, rfl⟩ := he
      refine OpOk.val run hR (.one _ _ rfl (.im _ _ ?_))
      have hc := hx.im_one ha
      exact .ifc t y _ hc (hc.one _ (by simp))
  · rename_i id path h1
    rw [h1] at hx
    simp only [Option.some.injEq, Prod.mk.injEq] at he
    obtain ⟨rfl, rfl, rfl⟩ := he
    refine OpOk.val run hR (.one _ _ rfl ?_)
    obtain ⟨b, hv, hb⟩ := hx.ref_inv
    rw [hv]
    exact .ifc t _ _ (.ref id path b hb) rfl
  · cases he

theorem ok_len {t : TypeId} {e n b : Nat} (htd : tdOf E.P t = some (.sl e n b)) (x : Operand) (ho : o.op = .call { callee := .builtin .len, args := #[x], argTypes := #[t] }) (h : Hint) {obs : List Ob}
    (he : eLen st (ev x) h = some (p, eff, obs)) (hob : ∀ q ∈ obs.map Ob.P, q) : OpOk E o st nx bs I a w p eff := by
  have hx := hev x
  have hu := (td_sl htd).1
  have run : ∀ ad n cap m, a.eval x = .slice ad n cap → (n : Int) = m → OpOk E o st nx bs I a w (.im (.v (.int .i64 m))) .no := by
    intro ad n cap m hv hm
    subst hm
    exact OpOk.val (by simp [execOp, ho, resolve, invoke, builtin, hv, Builtin.len_, run_underlying hu, goInt]) hR (PVal.val rfl)
  unfold eLen at he
  split at he
  · rename_i sz xs m h1
    rw [h1] at hx
    simp only [Option.some.injEq, Prod.mk.injEq] at he
    obtain ⟨rfl, rfl, rfl⟩ := he
    obtain ⟨cs, ad, b, q, cap, hv, _⟩ := hx.sl_inv
    exact run _ _ _ _ hv (hob _ (List.mem_singleton.2 rfl))
  · rename_i h1
    rw [h1] at hx
    simp only [Option.some.injEq, Prod.mk.injEq] at he
    obtain ⟨rfl, rfl, rfl⟩ := he
    exact run _ _ _ _ hx.v_inv.1 rfl
  · rename_i sz id m h1
    rw [h1] at hx
    split at he
    · rename_i e' sz' xs m' hob'
      simp only [Option.some.injEq, Prod.mk.injEq] at he
      obtain ⟨rfl, rfl, rfl⟩ := he
      obtain ⟨ad, n', cap, hv, hb⟩ := hx.ownF_inv
      obtain ⟨cs, k1, _⟩ := hR.free hob' hb
      obtain ⟨ad', cap', e2, _⟩ := ownsRow_inv k1
      rw [hv] at e2
      simp only [Value.slice.injEq] at e2
      obtain ⟨rfl, rfl, rfl⟩ := e2
      exact run _ _ _ _ hv (hob _ (List.mem_singleton.2 rfl))
    · cases he
  · rename_i sz id off len m h1
    rw [h1] at hx
    simp only [Option.some.injEq, Prod.mk.injEq] at he
    obtain ⟨rfl, rfl, rfl⟩ := he
    obtain ⟨u, hb, hcut⟩ := hx.own_inv
    unfold cutV at hcut
    split at hcut
    · obtain ⟨_, a', hv, _⟩ := hcut
      exact run _ _ _ _ hv (hob _ (List.mem_singleton.2 rfl))
    · exact hcut.elim
  · cases he

theorem ok_lens {t : TypeId} (htd : tdOf E.P t = some .str) (x : Operand) (ho : o.op = .call { callee := .builtin .len, args := #[x], argTypes := #[t] }) (h : Hint) {obs : List Ob}
    (he : opE E.T (.lens x) ev st nx h = some (p, eff, obs)) : OpOk E o st nx bs I a w p eff := by
  have hx := hev x
  have hu := td_str htd
  simp only [opE] at he
  split at he
  · rename_i s h1
    rw [h1] at hx
    simp only [Option.some.injEq, Prod.mk.injEq] at he
    obtain ⟨rfl, rfl, rfl⟩ := he
    exact OpOk.val (by simp [execOp, ho, resolve, invoke, builtin, hx.v_inv.1, Builtin.len_, run_underlying hu, goInt]) hR (PVal.val rfl)
  · cases he

theorem ok_nck (x : Operand) (ho : o.op = .nilCheck x) (h : Hint) {obs : List Ob} (he : opE E.T (.nck x) ev st nx h = some (p, eff, obs)) : OpOk E o st nx bs I a w p eff := by
  have hx := hev x
  simp only [opE] at he
  split at he
  · rename_i id path h1
    simp only [Option.some.injEq, Prod.mk.injEq] at he
    obtain ⟨rfl, rfl, rfl⟩ := he
    rw [h1] at hx
    obtain ⟨b, hv, hb⟩ := hx.ref_inv
    exact OpOk.val (v := a.eval x) (by simp [execOp, ho, hv]) hR hx
  · rename_i n y h1
    simp only [Option.some.injEq, Prod.mk.injEq] at he
    obtain ⟨rfl, rfl, rfl⟩ := he
    rw [h1] at hx
    obtain ⟨cs, b, q, hv, _⟩ := hx.pim_inv
    exact OpOk.val (v := a.eval x) (by simp [execOp, ho, hv]) hR hx
  · cases he

theorem ok_mks {t e : TypeId} {i : TyI} {sz eb : Nat} (hi : TyOk E.P e i) (htd : tdOf E.P t = some (.sl e sz eb)) {cs : List Value} (hcs : constI i.z = some cs) (hlen : cs.length = sz) (hsz : 0 < sz)
    (n c : Operand) (ho : o.op = .makeSlice t n c) (h : Hint) {obs : List Ob} (he : eMks nx e sz eb i.z (ev n) (ev c) = some (p, eff, obs)) (hob : ∀ q ∈ obs.map Ob.P, q) : OpOk E o st nx bs I a w p eff := by
  have hn := hev n
  have hc := hev c
  unfold eMks at he
  split at he
  · rename_i kn x kc y h1 h2
    rw [h1] at hn; rw [h2] at hc
    simp only [Option.some.injEq, Prod.mk.injEq] at he
    obtain ⟨rfl, rfl, rfl⟩ := he
    have g1 : 0 ≤ x := hob _ (by simp)
    have g2 : x = y := hob _ (by simp)
    have g3 : x * (eb : Int) ≤ 140737488355328 := hob _ (by simp)
    have g4 : x ≤ 9223372036854775807 := hob _ (by simp)
    subst g2
    obtain ⟨inf, zv, k1, k2, k3, k4⟩ := hi.info
    rw [k4] at hcs
    simp only [Option.some.injEq] at hcs
    have hzl : zv.cells.size = sz := by rw [← hlen, ← hcs]; simp
    have hrc : RC I i.z zv.cells.toList := constI_ok k4
    obtain ⟨hu, hce, hbe⟩ := td_sl htd
    have hsi : inf.size = sz := by
      have : E.P.cellsOf e = inf.size := by simp [Program.cellsOf, k1]
      omega
    have hbi : inf.bytes = eb := by
      have : E.P.bytesOf e = inf.bytes := by simp [Program.bytesOf, k1]
      omega
    have hrun := run_make (P := E.P) w t e inf zv hu k1 k3 kn kc x x g1 (by omega) (by rw [hbi, Int.mul_comm]; omega) g4
    have hmade := RC.made hrc hzl hsz x.toNat
    have hN := ORel.newRow hR e sz (List.replicate x.toNat i.z) (madeCells zv.cells (x.toNat * sz)).toList hmade (by simp only [List.length_replicate, maxLen]; omega)
    simp only [List.length_replicate] at hN
    refine OpOk.valw (w' := w.alloc (.cells ⟨(madeCells zv.cells (x.toNat * sz)).toList⟩ e)) (v := .slice (some ⟨w.heap.size, 0, none⟩) x.toNat x.toNat) ?_ (hR.le_upd _) (Im.le_refl _) hN (.one _ _ rfl ?_)
    · rw [hsi] at hrun
      simp [execOp, ho, hn.v_inv.1, hc.v_inv.1, hrun]
    · exact PC.ownF sz nx (some ⟨w.heap.size, 0, none⟩) x.toNat x.toNat (by simp [updB])
  · cases he

omit hev in
/-- What is appended: its cells, at a place or nowhere. -/
theorem source_ok {sz : Nat} {y : PV} {v : Value} {ys : List IV} (hy : PVal bs I y v) (he : elemsOf st sz y = some ys) :
    ∃ news, RC I (.arr sz ys) news ∧ ((∃ ad c, v = .slice (some ad) ys.length c ∧ ∀ j u, news[j]? = some u → w.cell? (ad.add j) = some u) ∨ ∃ c, v = .slice none 0 c ∧ ys = []) := by
  unfold elemsOf at he
  split at he
  · rename_i sz' xs
    cases hb : Nat.beq sz sz' with
    | false => simp [hb] at he
    | true =>
      have := Nat.eq_of_beq_eq_true hb
      subst this
      simp only [hb, cond_true, Option.some.injEq] at he
      subst he
      obtain ⟨cs, ad, b, q, cap, hv, k1, k2, k3, k4⟩ := hy.sl_inv
      refine ⟨cs, k1, ?_⟩
      by_cases hn : xs = []
      · subst hn
        cases ad with
        | none => exact .inr ⟨cap, by simpa using hv, rfl⟩
        | some ad => exact .inl ⟨ad, cap, hv, fun j u hu => by cases k1; simp at hu⟩
      · rw [k3 hn] at hv
        refine .inl ⟨_, cap, hv, fun j u hu => ?_⟩
        rw [add_lit]; exact At.cell hR k4 j u hu
  · simp only [Option.some.injEq] at he
    subst he
    exact ⟨[], .arrN sz, .inr ⟨0, hy.v_inv.1, rfl⟩⟩
  · rename_i sz' id
    split at he
    · rename_i e sz'' xs m hob'
      cases hb : (Nat.beq sz sz' && Nat.beq sz sz'') with
      | false => simp [hb] at he
      | true =>
        simp only [hb, cond_true, Option.some.injEq] at he
        simp only [Bool.and_eq_true] at hb
        have q1 := Nat.eq_of_beq_eq_true hb.1
        have q2 := Nat.eq_of_beq_eq_true hb.2
        subst he; subst q1; subst q2
        obtain ⟨ad, n, cap, hv, hbs⟩ := hy.ownF_inv
        obtain ⟨cs, k1, k2, k3⟩ := hR.free hob' hbs
        refine ⟨cs, k2, ?_⟩
        obtain ⟨ad', cap', e2, _, k4, k5⟩ := ownsRow_inv k1
        rw [hv] at e2
        simp only [Value.slice.injEq] at e2
        obtain ⟨rfl, rfl, rfl⟩ := e2
        rcases k5 with rfl | ⟨g, rfl⟩
        · by_cases hn : xs = []
          · subst hn; exact .inr ⟨cap, by simpa using hv, rfl⟩
          · obtain ⟨g, hg⟩ := k4 (List.length_pos_iff.2 hn); cases hg
        · refine .inl ⟨_, cap, hv, fun j u hu => ?_⟩
          rw [add_lit]
          have := ownsRow_cell k1 (g := g) (by rw [hv]; rfl) hu
          simpa using this
    · cases he
  · rename_i sz' id off len
    split at he
    · rename_i e sz'' xs m hob'
      cases hb : (Nat.beq sz sz' && Nat.beq sz sz'') with
      | false => simp [hb] at he
      | true =>
        simp only [hb, cond_true, Option.some.injEq] at he
        simp only [Bool.and_eq_true] at hb
        have q1 := Nat.eq_of_beq_eq_true hb.1
        have q2 := Nat.eq_of_beq_eq_true hb.2
        subst he; subst q1; subst q2
        obtain ⟨u, hbs, hcut⟩ := hy.own_inv
        obtain ⟨cs, k1, k2, k3⟩ := hR.free hob' hbs
        obtain ⟨ad', cap', rfl, k0, k4, k5⟩ := ownsRow_inv k1
        simp only [cutV] at hcut
        obtain ⟨c1, a2, hv, c2⟩ := hcut
        have hl : ((xs.drop off).take len).length = len := by simp; omega
        refine ⟨_, k2.take_drop off len, ?_⟩
        by_cases hn : len = 0
        · subst hn
          cases a2 with
          | none => exact .inr ⟨_, hv, by simp⟩
          | some ad => exact .inl ⟨ad, _, by simpa using hv, fun j u hu => by simp at hu⟩
        · rcases k5 with rfl | ⟨g, rfl⟩
          · obtain ⟨g, hg⟩ := k4 (by omega); cases hg
          · rw [c2 (by omega), Option.map_some, add_lit] at hv
            refine .inl ⟨_, _, by rw [hl]; exact hv, fun j u hu => ?_⟩
            rw [add_lit]
            have hj := (List.getElem?_eq_some_iff.1 hu).1
            rw [List.getElem?_take, List.getElem?_drop] at hu
            split at hu
            · have := ownsRow_cell k1 (g := g) rfl hu
              simpa using this
            · cases hu
    · cases he
  · cases he

omit hR hev in
/-- An append onto a row of the call's own, whatever is appended. -/
theorem app_core {t e : TypeId} {i : TyI} {sz eb : Nat} (hi : TyOk E.P e i) (htd : tdOf E.P t = some (.sl e sz eb)) {cz : List Value} (hcs : constI i.z = some cz) (hlen : cz.length = sz) (hsz : 0 < sz) {v s : Value} {xs ys : List IV} {cs news : List Value} (ty : TypeId)
    (hown : w.ownsRow 0 e sz v xs.length cs) (hn : RC I (.arr sz ys) news)
    (hsrc : (∃ ad c, s = .slice (some ad) ys.length c ∧ ∀ j u, news[j]? = some u → w.cell? (ad.add j) = some u) ∨ ∃ c, s = .slice none 0 c ∧ ys = [])
    (h63 : xs.length + ys.length ≤ 9223372036854775807) (hb : (xs.length + ys.length) * eb ≤ 140737488355328) :
    ∃ v' w', (Builtin.append_ #[t, t] ty #[v, s]).run E.P w = .ok v' w' ∧ w'.ownsRow 0 e sz v' (xs.length + ys.length) (cs ++ news) ∧ w.grownBy w' v.ownBlock ∧
      (v'.ownBlock = v.ownBlock ∨ v'.ownBlock = some w.heap.size ∧ ∀ k, k < w.heap.size → w'.heap[k]? = w.heap[k]?) := by
  obtain ⟨inf, zv, k1, k2, k3, k4⟩ := hi.info
  obtain ⟨hu, hce, hbe⟩ := td_sl htd
  have hsi : inf.size = sz := by
    have : E.P.cellsOf e = inf.size := by simp [Program.cellsOf, k1]
    omega
  have hbi : inf.bytes = eb := by
    have : E.P.bytesOf e = inf.bytes := by simp [Program.bytesOf, k1]
    omega
  have hzs : zv.cells.size = sz := by
    rw [k4] at hcs
    simp only [Option.some.injEq] at hcs
    rw [← hlen, ← hcs]; simp
  rcases hsrc with ⟨ad, c, rfl, hcell⟩ | ⟨c, rfl, rfl⟩
  · exact run_append_own2 (P := E.P) t ty e inf zv sz eb hu k1 k3 hsi hbi hzs hsz v xs.length cs hown ad ys.length c news hn.arr_length hcell hn.one (by simp only [maxLen]; omega) hb
  · cases hn
    refine ⟨v, w, ?_, by simpa using hown, ⟨rfl, rfl, rfl, Nat.le_refl _, fun _ _ _ => rfl⟩, .inl rfl⟩
    rcases hown.2 with ⟨rfl, _⟩ | ⟨g, cap, cur, rfl, _, _, hnc, _⟩
    · simp [Builtin.append_, run_underlying hu, sizeOf, typeInfo, k1, Builtin.lenOf, Builtin.firstCells]
    · simp [Builtin.append_, run_underlying hu, sizeOf, typeInfo, k1, Builtin.lenOf, Builtin.firstCells, hnc, storeCells]

end
end Go.Eng
end

section
namespace Go.Eng
open Go Go.RowKit

section
variable {E : Env} {o : Oper} {st : Sto} {nx : Nat} {bs : Bs} {I : Im} {a : Act} {w : World} {p : PV} {eff : Eff}
variable (hR : E.R st nx bs I w) (ev : Operand → PV) (hev : ∀ x, PVal bs I (ev x) (a.eval x))
include hR hev

omit hev in
theorem app_row {t e : TypeId} {i : TyI} {sz eb : Nat} (hi : TyOk E.P e i) (htd : tdOf E.P t = some (.sl e sz eb)) {cz : List Value} (hcs : constI i.z = some cz) (hlen : cz.length = sz) (hsz : 0 < sz)
    {id m : Nat} {xs ys : List IV} {v s : Value} (ho : getO st id = some (.row e sz xs m)) (hb : bs id = some v) (ty : TypeId) {y : PV} (hy : PVal bs I y s) (hel : elemsOf st sz y = some ys)
    (hb2 : (xs ++ ys).length * eb ≤ 140737488355328) (h63 : (xs ++ ys).length ≤ 9223372036854775807) :
    ∃ v' w', (Builtin.append_ #[t, t] ty #[v, s]).run E.P w = .ok v' w' ∧ E.R ((nx, .row e sz (xs ++ ys) (appM m)) :: delO st id) (nx + 1) (updB bs nx v') I w' ∧ ∃ ad n cap, v' = .slice ad n cap := by
  obtain ⟨cs, k1, k2, k3⟩ := hR.free ho hb
  obtain ⟨news, n1, n2⟩ := source_ok hR hy hel
  obtain ⟨v', w', r1, r2, r3, r4⟩ := app_core hi htd hcs hlen hsz ty k1 n1 n2 (by simpa using h63) (by simpa using hb2)
  refine ⟨v', w', r1, ORel.app hR ho hb k1 k2 n1 r2 r3 r4, ?_⟩
  rcases r2.2 with ⟨rfl, _⟩ | ⟨g, cap, cur, rfl, _⟩
  · exact ⟨_, _, _, rfl⟩
  · exact ⟨_, _, _, rfl⟩

theorem ok_app {t e : TypeId} {i : TyI} {sz eb : Nat} (hi : TyOk E.P e i) (htd : tdOf E.P t = some (.sl e sz eb)) {cz : List Value} (hcs : constI i.z = some cz) (hlen : cz.length = sz) (hsz : 0 < sz)
    (x y : Operand) (ho : o.op = .call { callee := .builtin .append, args := #[x, y], argTypes := #[t, t] }) (h : Hint) {obs : List Ob} (he : eApp st nx e sz eb (ev x) (ev y) h = some (p, eff, obs))
    (hob : ∀ q ∈ obs.map Ob.P, q) : OpOk E o st nx bs I a w p eff := by
  have hx := hev x
  have hy := hev y
  have run : ∀ {v' w'}, (Builtin.append_ #[t, t] o.type #[a.eval x, a.eval y]).run E.P w = .ok v' w' → (execOp a.eval o).run E.P w = .ok (.value v') w' := by
    intro v' w' hr
    simp [execOp, ho, resolve, invoke, builtin, hr]
  unfold eApp at he
  split at he
  · rename_i ys zs hel
    split at he
    · rename_i h1
      rw [h1] at hx
      simp only [Option.some.injEq, Prod.mk.injEq] at he
      obtain ⟨rfl, rfl, rfl⟩ := he
      have g1 : ys = zs := hob _ (by simp)
      have g2 : zs.length * eb ≤ 140737488355328 := hob _ (by simp)
      have g3 : zs.length ≤ 9223372036854775807 := hob _ (by simp)
      subst g1
      have hv := hx.v_inv.1
      -- a row of nothing, for a moment
      have hD : E.R ((nx, .row e sz [] 0) :: st) (nx + 1) (updB bs nx (.slice none 0 0)) I w := by
        refine ORel.change (fun _ => False) hR (Kept.refl _ _ _) (fun _ _ _ => rfl) (hR.le_upd _) ?_ (Im.le_refl _) hR.imm ?_ ?_
        · intro id hid
          simp only [updB]; rw [if_neg (by omega)]; exact hR.nxt id (by omega)
        · intro id ob hob
          simp only [getO] at hob
          cases hn : Nat.beq nx id with
          | true =>
            simp only [hn, cond_true, Option.some.injEq] at hob
            subst hob
            have : nx = id := Nat.eq_of_beq_eq_true hn
            subst this
            refine .inr ⟨.slice none 0 0, by simp [updB], ⟨[], ⟨by simp, .inl ⟨rfl, rfl⟩⟩, .arrN sz, fun b hb => by simp [Value.ownBlock] at hb⟩, fun b hb => by simp [blk] at hb⟩
          | false =>
            simp only [hn, cond_false] at hob
            obtain ⟨u, k1, _, _⟩ := hR.obj id ob hob
            exact .inl ⟨u, hob, k1, fun _ _ => ⟨not_false, fun _ => rfl⟩⟩
        · intro id id' ob ob' u u' b h1 h2 hne e1 e2 hbb
          have old : ∀ {i : Nat} {x : PObj} {u : Value}, getO ((nx, PObj.row e sz [] 0) :: st) i = some x → updB bs nx (.slice none 0 0) i = some u → (blk u = none) ∨ (getO st i = some x ∧ bs i = some u) := by
            intro i x u hg hu
            by_cases q : i = nx
            · subst q; simp [updB] at hu; subst hu; exact .inl rfl
            · have : Nat.beq nx i = false := by rw [← Bool.not_eq_true, Nat.beq_eq]; exact fun e => q e.symm
              simp only [getO, this, cond_false] at hg
              simp [updB, q] at hu
              exact .inr ⟨hg, hu⟩
          rcases old h1 e1 with q | ⟨q1, q2⟩
          · rw [q] at hbb; cases hbb
          · rcases old h2 e2 with r | ⟨r1, r2⟩
            · rw [r]; intro hc; cases hc
            · exact hR.sep id id' ob ob' u u' b q1 r1 hne q2 r2 hbb
      have hnone : ∀ id, nx ≤ id → getO st id = none := by
        intro id hid
        cases hg : getO st id with
        | none => rfl
        | some ob => obtain ⟨u, k1, _⟩ := hR.obj id ob hg; rw [hR.nxt id hid] at k1; cases k1
      have hel2 : elemsOf ((nx, .row e sz [] 0) :: st) sz (ev y) = some ys := by
        have hgo : ∀ id ob, getO st id = some ob → getO ((nx, PObj.row e sz [] 0) :: st) id = some ob := by
          intro id ob hg
          have : Nat.beq nx id = false := by
            rw [← Bool.not_eq_true, Nat.beq_eq]
            rintro rfl
            rw [hnone nx (Nat.le_refl _)] at hg; cases hg
          simp only [getO, this, cond_false]; exact hg
        unfold elemsOf at hel ⊢
        split at hel
        · exact hel
        · exact hel
        · rename_i sz' id
          split at hel
          · rename_i q; rw [hgo _ _ q]; exact hel
          · cases hel
        · rename_i sz' id off len
          split at hel
          · rename_i q; rw [hgo _ _ q]; exact hel
          · cases hel
        · cases hel
      obtain ⟨v', w', r1, r2, ad, n, cap, rfl⟩ := app_row hD hi htd hcs hlen hsz (id := nx) (m := 0) (xs := []) (ys := ys) (v := .slice none 0 0) (by have hb0 : Nat.beq nx nx = true := (by rw [Nat.beq_eq]); simp [getO, hb0]) (by simp [updB]) o.type
        (hy.mono (hR.le_upd _) (Im.le_refl _)) hel2 (by simpa using g2) (by simpa using g3)
      rw [← hv] at r1
      refine OpOk.valw (v := .slice ad n cap) (bs' := updB (updB bs nx (.slice none 0 0)) (nx + 1) (.slice ad n cap)) (run r1) (Bs.le_trans (hR.le_upd (.slice none 0 0)) (hD.le_upd _)) (Im.le_refl _) ?_ (.one _ _ rfl (PC.ownF sz (nx + 1) ad n cap (by simp [updB])))
      refine ORel.forget (nx := nx + 1 + 1) r2 ?_ (Nat.le_refl _)
      intro id ob hob
      simp only [effS, getO] at hob ⊢
      cases hn : Nat.beq (nx + 1) id with
      | true => simpa [hn, appM] using hob
      | false =>
        simp only [hn, cond_false] at hob ⊢
        rw [getO_delO]
        have hne : nx ≠ id := by
          rintro rfl
          rw [hnone nx (Nat.le_refl _)] at hob; cases hob
        rw [if_neg hne]
        have : Nat.beq nx id = false := by rw [← Bool.not_eq_true, Nat.beq_eq]; exact hne
        simp only [getO, this, cond_false]; exact hob
    · rename_i sz' id h1
      rw [h1] at hx
      split at he
      · rename_i e' sz'' xs m hob'
        cases hbb : (Nat.beq sz sz' && Nat.beq sz sz'' && Nat.beq e e') with
        | false => simp [hbb] at he
        | true =>
          simp only [hbb, cond_true, Option.some.injEq, Prod.mk.injEq] at he
          obtain ⟨rfl, rfl, rfl⟩ := he
          simp only [Bool.and_eq_true] at hbb
          have q1 := Nat.eq_of_beq_eq_true hbb.1.1
          have q2 := Nat.eq_of_beq_eq_true hbb.1.2
          have q3 : e = e' := Nat.eq_of_beq_eq_true hbb.2
          subst q1; subst q2; subst q3
          have g1 : xs ++ ys = zs := hob _ (by simp)
          have g2 : zs.length * eb ≤ 140737488355328 := hob _ (by simp)
          have g3 : zs.length ≤ 9223372036854775807 := hob _ (by simp)
          subst g1
          obtain ⟨ad, n, cap, hv, hbs⟩ := hx.ownF_inv
          obtain ⟨v', w', r1, r2, ad', n', cap', rfl⟩ := app_row hR hi htd hcs hlen hsz hob' hbs o.type hy hel g2 g3
          exact OpOk.valw (v := .slice ad' n' cap') (bs' := updB bs nx (.slice ad' n' cap')) (run r1) (hR.le_upd _) (Im.le_refl _) r2 (.one _ _ rfl (PC.ownF sz nx ad' n' cap' (by simp [updB])))
      · cases he
    · cases he
  · cases he
end
end Go.Eng
end

section
namespace Go.Eng
open Go Go.RowKit

section
variable {E : Env} {o : Oper} {st : Sto} {nx : Nat} {bs : Bs} {I : Im} {a : Act} {w : World} {p : PV} {eff : Eff}

theorem nilQ_ok {x : IV} {v : Value} (h : RC I x [v]) {b : Bool} (hq : nilQ x = some b) : (b = true → v = .nilIface) ∧ (b = false → ∃ t u, v = .iface t u) := by
  unfold nilQ at hq
  split at hq
  · cases hq; cases h; exact ⟨fun _ => rfl, fun h => by cases h⟩
  · cases hq; cases h with | ifc _ _ u _ _ => exact ⟨fun h => (by cases h), fun _ => ⟨_, u, rfl⟩⟩
  · cases hq

theorem run_eq_nn {P : Program} {t : TypeId} {ms : Array (String × TypeId)} (hu : P.underlying t = some (.interface ms)) (d : Nat) : (Op.equalIn (d + 1) t .nilIface .nilIface).run P w = .ok true w := by
  simp only [Op.equalIn, Sem.run_bind, run_underlying hu, Result.andThen_ok, Sem.run_pure]
theorem run_eq_nf {P : Program} {t : TypeId} {ms : Array (String × TypeId)} (hu : P.underlying t = some (.interface ms)) (d : Nat) (t1 : TypeId) (u : Value) : (Op.equalIn (d + 1) t .nilIface (.iface t1 u)).run P w = .ok false w := by
  simp only [Op.equalIn, Sem.run_bind, run_underlying hu, Result.andThen_ok, Sem.run_pure]
theorem run_eq_fn {P : Program} {t : TypeId} {ms : Array (String × TypeId)} (hu : P.underlying t = some (.interface ms)) (d : Nat) (t1 : TypeId) (u : Value) : (Op.equalIn (d + 1) t (.iface t1 u) .nilIface).run P w = .ok false w := by
  simp only [Op.equalIn, Sem.run_bind, run_underlying hu, Result.andThen_ok, Sem.run_pure]
theorem run_eq_ff {P : Program} {t : TypeId} {ms : Array (String × TypeId)} (hu : P.underlying t = some (.interface ms)) (d : Nat) {t1 t2 : TypeId} (hne : t1 ≠ t2) (u v : Value) :
    (Op.equalIn (d + 1) t (.iface t1 u) (.iface t2 v)).run P w = .ok false w := by
  simp only [Op.equalIn, Sem.run_bind, run_underlying hu, Result.andThen_ok, if_pos hne, Sem.run_pure]
theorem run_eq_same {P : Program} {t : TypeId} {ms : Array (String × TypeId)} (hu : P.underlying t = some (.interface ms)) (d : Nat) {t1 : TypeId} {inf : TypeInfo} (hi : P.info? t1 = some inf) (hc : inf.comparable = true)
    (u v : Value) : (Op.equalIn (d + 1) t (.iface t1 u) (.iface t1 v)).run P w = (Op.equalIn d t1 u v).run P w := by
  simp only [Op.equalIn, Sem.run_bind, run_underlying hu, Result.andThen_ok, ne_eq, not_true, if_false]
  simp [typeInfo, hi, hc]
theorem run_eq_int {P : Program} {t : TypeId} {k : IntKind} (hu : P.underlying t = some (.int k)) (d : Nat) (j : IntKind) (x y : Int) : (Op.equalIn (d + 1) t (.int j x) (.int j y)).run P w = .ok (x == y) w := by
  simp only [Op.equalIn, Sem.run_bind, run_underlying hu, Result.andThen_ok, if_true, Sem.run_pure]

theorem ieqQ_ok (hT : TOk E.P E.T) {t : TypeId} {ms : Array (String × TypeId)} (hu : E.P.underlying t = some (.interface ms)) {x y : IV} {u v : Value} (hx : RC I x [u]) (hy : RC I y [v]) {r : Bool}
    (h : ieqQ E.T x y = some r) (d : Nat) : (Op.equalIn (d + 1 + 1) t u v).run E.P w = .ok r w ∧ nilQ x ≠ none ∧ nilQ y ≠ none := by
  unfold ieqQ at h
  split at h
  · cases h; cases hx; cases hy
    exact ⟨run_eq_nn hu _, by simp [nilQ], by simp [nilQ]⟩
  · cases h; cases hx; cases hy
    exact ⟨run_eq_nf hu _ _ _, by simp [nilQ], by simp [nilQ]⟩
  · cases h; cases hx; cases hy
    exact ⟨run_eq_fn hu _ _ _, by simp [nilQ], by simp [nilQ]⟩
  · rename_i t1 x1 t2 y1
    cases hx with | ifc _ _ u1 hx1 _ =>
    cases hy with | ifc _ _ v1 hy1 _ =>
    refine ⟨?_, by simp [nilQ], by simp [nilQ]⟩
    cases ht : Nat.beq t1 t2 with
    | false =>
      simp only [ht, cond_false, Option.some.injEq] at h
      subst h
      have : t1 ≠ t2 := fun e => by rw [← Nat.beq_eq] at e; rw [ht] at e; cases e
      exact run_eq_ff hu _ this _ _
    | true =>
      have : t1 = t2 := Nat.eq_of_beq_eq_true ht
      subst this
      simp only [ht, cond_true] at h
      split at h
      · rename_i k n z j a' k' b' hg
        have htk := hT t1 _ hg
        obtain ⟨inf, hinf, hcmp⟩ := htk.comp rfl
        have hui := td_int htk.td
        cases hx1; cases hy1
        cases hk : kEq j k' with
        | false => simp [hk] at h
        | true =>
          have := kEq_ok hk
          subst this
          simp only [hk, cond_true, Option.some.injEq] at h
          subst h
          rw [run_eq_same hu _ hinf hcmp, run_eq_int hui]
      · cases h
  · cases h

variable (hR : E.R st nx bs I w) (ev : Operand → PV) (hev : ∀ x, PVal bs I (ev x) (a.eval x))
include hR hev

theorem ok_ieq (hT : TOk E.P E.T) (neg : Bool) {t u : TypeId} (htd : tdOf E.P t = some .ifc) (x y : Operand) (ho : o.op = .binOp (if neg then .neq else .eql) t x y u) (h : Hint) {obs : List Ob}
    (he : eIeq E.T neg (isC x || isC y) (ev x) (ev y) h = some (p, eff, obs)) (hob : ∀ q ∈ obs.map Ob.P, q) : OpOk E o st nx bs I a w p eff := by
  have hx := hev x
  have hy := hev y
  obtain ⟨ms, hu⟩ := td_ifc htd
  have main : ∀ (xa xb : IV) (r : Bool), ev x = .im xa → ev y = .im xb → ieqQ E.T xa xb = some (if neg then !r else r) →
      (isC x || isC y) = true ∨ (nilQ xa = some true → nilQ xb = some true → False) → OpOk E o st nx bs I a w (.im (.v (.bool r))) .no := by
    intro xa xb r h1 h2 hq hc
    rw [h1] at hx; rw [h2] at hy
    have ha1 : xa.isAgg = false := by
      unfold ieqQ at hq; split at hq <;> first | rfl | cases hq
    have hb1 : xb.isAgg = false := by
      unfold ieqQ at hq; split at hq <;> first | rfl | cases hq
    have e1 := hx.im_one ha1
    have e2 := hy.im_one hb1
    obtain ⟨k1, n1, n2⟩ := ieqQ_ok (w := w) hT hu e1 e2 hq 9998
    have hguard : (eqGuard (if neg then .neq else .eql) t x y (a.eval x) (a.eval y)).run E.P w = .ok () w := by
      cases hqa : nilQ xa with
      | none => exact absurd hqa n1
      | some ba =>
        cases hqb : nilQ xb with
        | none => exact absurd hqb n2
        | some bb =>
          obtain ⟨m1, m2⟩ := nilQ_ok e1 hqa
          obtain ⟨m3, m4⟩ := nilQ_ok e2 hqb
          cases ba with
          | false =>
            obtain ⟨_, _, q⟩ := m2 rfl
            rw [q]; cases neg <;> simp [eqGuard]
          | true =>
            rw [m1 rfl]
            cases bb with
            | false =>
              obtain ⟨_, _, q⟩ := m4 rfl
              rw [q]; cases neg <;> simp [eqGuard]
            | true =>
              rw [m3 rfl]
              rcases hc with hc | hc
              · simp only [Bool.or_eq_true] at hc
                rcases hc with hc | hc
                · cases x <;> simp [isC] at hc
                  cases neg <;> simp [eqGuard]
                · cases y <;> simp [isC] at hc
                  cases neg <;> cases x <;> simp [eqGuard]
              · exact (hc hqa hqb).elim
    have hbin : (binOp (if neg then .neq else .eql) t (a.eval x) (a.eval y)).run E.P w = .ok (.bool r) w := by
      have hne : ∀ z, nilQ z ≠ none → ∀ v, RC I z [v] → v = .nilIface ∨ ∃ t u, v = .iface t u := by
        intro z hz v hv
        cases hq : nilQ z with
        | none => exact absurd hq hz
        | some b => cases b with
          | true => exact .inl ((nilQ_ok hv hq).1 rfl)
          | false => exact .inr ((nilQ_ok hv hq).2 rfl)
      have q1 := hne _ n1 _ e1
      have q2 := hne _ n2 _ e2
      have k2 : (Op.equal t (a.eval x) (a.eval y)).run E.P w = .ok (if neg then !r else r) w := k1
      cases neg
      · rcases q1 with q1 | ⟨_, _, q1⟩ <;> rcases q2 with q2 | ⟨_, _, q2⟩ <;> rw [q1, q2] at k2 ⊢ <;> simp [binOp, k2]
      · rcases q1 with q1 | ⟨_, _, q1⟩ <;> rcases q2 with q2 | ⟨_, _, q2⟩ <;> rw [q1, q2] at k2 ⊢ <;> simp [binOp, k2]
    refine OpOk.val ?_ hR (PVal.val rfl)
    simp [execOp, ho, hguard, hbin]
  unfold eIeq at he
  split at he
  · rename_i hcst
    split at he
    · rename_i h1 h2
      split at he
      · rename_i hn
        simp only [Option.some.injEq, Prod.mk.injEq] at he
        obtain ⟨rfl, rfl, rfl⟩ := he
        exact main _ _ _ h1 h2 (by simpa using hob _ (List.mem_singleton.2 rfl)) (.inl hcst)
      · simp only [Option.some.injEq, Prod.mk.injEq] at he
        obtain ⟨rfl, rfl, rfl⟩ := he
        exact main _ _ _ h1 h2 (by simpa using hob _ (List.mem_singleton.2 rfl)) (.inl hcst)
    · cases he
  · rename_i hcst
    split at he
    · rename_i h1 h2
      split at he
      · simp only [Option.some.injEq, Prod.mk.injEq] at he
        obtain ⟨rfl, rfl, rfl⟩ := he
        exact main _ _ _ h1 h2 (by simpa using hob _ List.mem_cons_self) (.inr (hob _ (by simp)))
      · simp only [Option.some.injEq, Prod.mk.injEq] at he
        obtain ⟨rfl, rfl, rfl⟩ := he
        exact main _ _ _ h1 h2 (by simpa using hob _ List.mem_cons_self) (.inr (hob _ (by simp)))
    · cases he
end
end Go.Eng
end

section
namespace Go.Eng
open Go Go.RowKit

theorem run_bts_loop {P : Program} (w : World) (f : Value → ByteArray → Sem (ForInStep ByteArray)) (hf : ∀ n r, f (.int .u8 n) r = pure (ForInStep.yield (r.push (UInt8.ofNat n.toNat)))) :
    ∀ (l : List Int) (s : ByteArray), (forIn (l.map fun n => Value.int .u8 n) s f).run P w = .ok ⟨s.data ++ (l.map fun n => UInt8.ofNat n.toNat).toArray⟩ w := by
  intro l
  induction l with
  | nil => intro s; simp
  | cons n l ih =>
    intro s
    simp only [List.map_cons, List.forIn_cons, Sem.run_bind, hf, Sem.run_pure, Result.andThen_ok]
    rw [ih]
    simp [ByteArray.push]

theorem run_bts {P : Program} (w : World) (ad : Addr) (cap : Nat) (l : List Int) (hc : ∀ (j : Nat) (u : Value), (l.map fun n => Value.int .u8 n)[j]? = some u → w.cell? (ad.add j) = some u) :
    (Conv.bytesToString (.slice (some ad) l.length cap)).run P w = .ok (.string (bytesOf l)) w := by
  have hr := run_loadCells_list (P := P) w ad (l.map fun n => Value.int .u8 n) hc
  simp only [List.length_map] at hr
  simp only [Conv.bytesToString, Sem.run_bind, hr, Result.andThen_ok]
  rw [List.forIn_toArray]
  refine (congrArg (fun r => Result.andThen r _) (run_bts_loop w _ (fun n r => rfl) l ByteArray.empty)).trans ?_
  simp [bytesOf, ByteArray.empty, ByteArray.emptyWithCapacity]
  rfl

theorem RC.ints {I : Im} : ∀ {l : List Int} {cs : List Value}, RC I (.arr 1 (l.map fun n => IV.v (.int .u8 n))) cs → cs = l.map fun n => Value.int .u8 n
  | [], _, h => by cases h; rfl
  | n :: l, _, h => by
    cases h with
    | arrC _ _ _ c cs' h1 h2 h3 => cases h1; rw [RC.ints h3]; rfl
theorem RC.of_ints {I : Im} : ∀ (l : List Int), RC I (.arr 1 (l.map fun n => IV.v (.int .u8 n))) (l.map fun n => Value.int .u8 n)
  | [] => .arrN 1
  | n :: l => by
    have := RC.arrC (I := I) 1 (.v (.int .u8 n)) (l.map fun n => IV.v (.int .u8 n)) [.int .u8 n] _ (.v _ rfl) rfl (RC.of_ints l)
    simpa using this

theorem PVal.one_inv {bs : Bs} {I : Im} {p : PV} {v : Value} (h : PVal bs I p v) (hp : plainP p = true) (ha : p.isAgg = false) : PC bs I p [v] := by
  cases h with
  | agg _ _ hg _ => rw [ha] at hg; cases hg
  | one _ _ _ hc => exact hc
  | tupN => cases hp
  | tupC => cases hp
  | unk => cases hp
  | gd => cases hp

section
variable {E : Env} {o : Oper} {st : Sto} {nx : Nat} {bs : Bs} {I : Im} {a : Act} {w : World} {p : PV} {eff : Eff}
variable (hR : E.R st nx bs I w) (ev : Operand → PV) (hev : ∀ x, PVal bs I (ev x) (a.eval x))
include hR hev

theorem ok_cvStr {s d e n b : Nat} (hs : tdOf E.P s = some (.sl e n b)) (he2 : tdOf E.P e = some (.int .u8)) (hd : tdOf E.P d = some .str) (x : Operand) (ho : o.op = .convert s d x) (h : Hint) {obs : List Ob}
    (he : eCvStr st (ev x) h = some (p, eff, obs)) (hob : ∀ q ∈ obs.map Ob.P, q) : OpOk E o st nx bs I a w p eff := by
  have hx := hev x
  have hus := (td_sl hs).1
  have hue := td_int he2
  have hud := td_str hd
  unfold eCvStr at he
  split at he
  · rename_i ys l hel
    simp only [Option.some.injEq, Prod.mk.injEq] at he
    obtain ⟨rfl, rfl, rfl⟩ := he
    have hy : ys = l.map fun n => IV.v (.int .u8 n) := hob _ (by simp)
    obtain ⟨news, n1, n2⟩ := source_ok hR hx hel
    rw [hy] at n1
    have hn := n1.ints
    refine OpOk.val (v := .string (bytesOf l)) ?_ hR (PVal.val rfl)
    rcases n2 with ⟨ad, c, hv, hcell⟩ | ⟨c, hv, hnil⟩
    · have hlen : ys.length = l.length := by rw [hy]; simp
      rw [hlen] at hv
      have hr := run_bts (P := E.P) w ad c l (fun j u hu => hcell j u (by rw [hn]; exact hu))
      rw [← hv] at hr
      simp only [execOp, ho, convert, Sem.run_bind, run_underlying hus, run_underlying hud, run_underlying hue, Result.andThen_ok, Sem.run_map, hv] at hr ⊢
      simp [hr]
    · have hl : l = [] := by
        rw [hnil] at hy
        cases l with
        | nil => rfl
        | cons _ _ => simp at hy
      subst hl
      simp [execOp, ho, convert, run_underlying hus, run_underlying hud, run_underlying hue, hv, Conv.bytesToString, bytesOf, ByteArray.empty, ByteArray.emptyWithCapacity]
      rfl
  · cases he

omit hev in
theorem ORel.immNew {w' : World} (ho : w'.os = w.os) (ht : w'.tape = w.tape) (hp : w'.output = w.output) (hs : w.heap.size ≤ w'.heap.size) (hb : ∀ k, k < w.heap.size → w'.heap[k]? = w.heap[k]?)
    (g : Nat) (hg : w.heap.size ≤ g) (cs : List Value) (hc : ∀ j u, cs[j]? = some u → w'.cell? ⟨g, j, none⟩ = some u) : I.le (frzI I g cs) ∧ E.R st nx bs (frzI I g cs) w' := by
  have hB : E.B ≤ w.heap.size := Nat.le_trans hR.base hR.kept.size
  have hI : I.le (frzI I g cs) := by
    intro b o u hu
    simp only [frzI]
    split
    · rename_i q
      obtain ⟨rfl, _⟩ := q
      rw [Im.none_of_size hR.imm hg o] at hu; cases hu
    · exact hu
  refine ⟨hI, ?_⟩
  refine ORel.change (hik := ?hik) (fun _ => False) hR ⟨ho, ht, hp, hs, fun k hk _ => hb k (by omega)⟩ (fun k hk _ => hb k hk) (Bs.le_refl _) hR.nxt hI ?_ ?_ hR.sep
  case hik =>
    intro b o hbB _
    simp only [frzI]
    rw [if_neg]
    rintro ⟨rfl, _⟩
    omega
  · intro b o u hu
    simp only [frzI] at hu
    split at hu
    · rename_i q
      obtain ⟨rfl, _⟩ := q
      exact hc o u hu
    · have h1 := hR.imm b o u hu
      have h2 := World.block_lt_of_cell? w _ h1
      simp only [World.cell?] at h1 ⊢
      rw [hb b h2]; exact h1
  · intro id ob hob
    obtain ⟨v, h1, h2, _⟩ := hR.obj id ob hob
    refine .inl ⟨v, hob, h1, fun b hbb => ⟨not_false, fun o => ?_⟩⟩
    simp only [frzI]
    rw [if_neg]
    rintro ⟨rfl, _⟩
    have := h2.lt hbb
    omega

theorem ok_cvByt {s d e n b : Nat} (hs : tdOf E.P s = some .str) (hd : tdOf E.P d = some (.sl e n b)) (he2 : tdOf E.P e = some (.int .u8)) (x : Operand) (ho : o.op = .convert s d x) (h : Hint) {obs : List Ob}
    (he : eCvByt (ev x) h = some (p, eff, obs)) (hob : ∀ q ∈ obs.map Ob.P, q) : OpOk E o st nx bs I a w p eff := by
  have hx := hev x
  have hus := td_str hs
  have hue := td_int he2
  have hud := (td_sl hd).1
  unfold eCvByt at he
  split at he
  · rename_i y l h1
    rw [h1] at hx
    simp only [Option.some.injEq, Prod.mk.injEq] at he
    obtain ⟨rfl, rfl, rfl⟩ := he
    have g1 : bytesOf l = y := hob _ (by simp)
    have g2 : ∀ n ∈ l, 0 ≤ n ∧ n < 256 := hob _ (by simp)
    have hsz : y.size = l.length := by rw [← g1]; simp [bytesOf, ByteArray.size]
    obtain ⟨cap, hcap, hcut⟩ : ∃ cap, l.length ≤ cap ∧ (Question.appendCap y.size 0 e).cut (w.tape w.drawn (.appendCap y.size 0 e)) = cap := ⟨_, by simp only [Question.cut]; omega, rfl⟩
    have hels : (y.data.map fun b => Value.int .u8 (b.toNat : Int)).toList = l.map fun n => Value.int .u8 n := by
      rw [← g1]
      simp only [bytesOf, Array.toList_map, List.map_map]
      apply List.map_congr_left
      intro n hn
      have := g2 n hn
      simp only [Function.comp]
      congr 1
      rw [UInt8.toNat_ofNat']
      omega
    let cells : Array Value := (y.data.map fun b => Value.int .u8 (b.toNat : Int)) ++ Array.replicate (cap - y.size) (.int .u8 0)
    let w1 : World := w.drew.alloc (.cells cells e)
    let w2 : World := w1.freeze ⟨w.heap.size, cells.size, none⟩ 1
    have hcl : ∀ (j : Nat) (u : Value), (l.map fun n => Value.int .u8 n)[j]? = some u → cells[j]? = some u := by
      intro j u hu
      have hj := (List.getElem?_eq_some_iff.1 hu).1
      have : cells.toList[j]? = some u := by
        simp only [cells, Array.toList_append, hels]
        rw [List.getElem?_append_left hj]; exact hu
      simpa using this
    have hrun : (execOp a.eval o).run E.P w = .ok (.value (.slice (some ⟨w.heap.size, 0, none⟩) l.length cap)) w2 := by
      have hlen : cells.size = cap := by
        have : cells.toList.length = cap := by
          simp only [cells, Array.toList_append, hels]
          simp; omega
        simpa using this
      have hsh : w1.shape? w.heap.size = some (e, cells.size) := by
        have h1 : w1.heap[w.heap.size]? = some (.cells cells e) := heap_alloc_new w.drew _
        simp [World.shape?, h1]
      simp only [execOp, ho, convert, Sem.run_bind, run_underlying hus, run_underlying hud, run_underlying hue, Result.andThen_ok, hx.v_inv.1, Conv.stringToBytes, Sem.run_map]
      have c1 : (choose (Question.appendCap y.size 0 e)).run E.P w = .ok cap w.drew := by
        rw [run_choose_drew, if_neg (by simp [Question.forced]), hcut]
      have c2 : (newRow e cells).run E.P w.drew = .ok ⟨w.heap.size, 0, none⟩ w1 := rfl
      have c3 : (markStringish ⟨w.heap.size, 0, none⟩).run E.P w1 = .ok () w2 := by
        simp only [markStringish, Sem.run_bind, run_shape, hsh, Result.andThen_ok]
        rfl
      rw [c1]
      simp only [Result.andThen_ok]
      rw [c2]
      simp only [Result.andThen_ok, c3, Sem.run_pure, hsz]
    have f1 : w.heap.size ≤ w2.heap.size := by
      show w.heap.size ≤ (World.freeze w1 ⟨w.heap.size, cells.size, none⟩ 1).heap.size
      simp only [World.freeze]
      rw [if_neg (by omega)]
      simp only [Array.size_modify]
      show w.heap.size ≤ (w.drew.alloc _).heap.size
      simp
    have f2 : ∀ k, k < w.heap.size → w2.heap[k]? = w.heap[k]? := by
      intro k hk
      have h1 : w1.heap[k]? = w.heap[k]? := heap_alloc_old w.drew _ hk
      rw [← h1]
      simp only [w2, World.freeze]
      rw [if_neg (by omega)]
      simp only [Array.getElem?_modify]
      rw [if_neg (by omega)]
    have f3 : ∀ (j : Nat) (u : Value), (l.map fun n => Value.int .u8 n)[j]? = some u → w2.cell? ⟨w.heap.size, j, none⟩ = some u := by
      intro j u hu
      have hcj := hcl j u hu
      have h1 : w1.heap[w.heap.size]? = some (.cells cells e) := heap_alloc_new w.drew _
      simp only [w2, World.freeze, World.cell?]
      rw [if_neg (by omega)]
      simp only [Array.getElem?_modify, if_true, h1, Option.map_some]
      simpa using hcj
    have hI := ORel.immNew hR (w' := w2) rfl rfl rfl f1 f2 w.heap.size (Nat.le_refl _) (l.map fun n => Value.int .u8 n) f3
    refine OpOk.valw hrun (Bs.le_refl _) hI.1 hI.2 (.one _ _ rfl (.im _ _ ?_))
    have := RC.sl (I := frzI I w.heap.size (l.map fun n => Value.int .u8 n)) 1 (l.map fun n => IV.v (.int .u8 n)) _ (some ⟨w.heap.size, 0, none⟩) w.heap.size 0 cap (RC.of_ints l) (by simpa using hcap) (fun _ => rfl) (frzI_at _ _ _)
    simpa using this
  · cases he

theorem ok_min (t : Array TypeId) (x y : Operand) (ho : o.op = .call { callee := .builtin .min, args := #[x, y], argTypes := t }) {obs : List Ob} (he : eMin (ev x) (ev y) = some (p, eff, obs)) : OpOk E o st nx bs I a w p eff := by
  have hx := hev x
  have hy := hev y
  unfold eMin at he
  split at he
  · rename_i k c j d h1 h2
    rw [h1] at hx; rw [h2] at hy
    simp only [Option.some.injEq, Prod.mk.injEq] at he
    obtain ⟨rfl, rfl, rfl⟩ := he
    exact OpOk.val (by simp [execOp, ho, resolve, invoke, builtin, Builtin.min_, hx.v_inv.1, hy.v_inv.1, Builtin.min2]) hR (PVal.val rfl)
  · cases he

omit hR hev in
theorem run_eq_sl {P : Program} {t e : TypeId} (hu : P.underlying t = some (.slice e)) (d : Nat) (ad : Option Addr) (n c : Nat) : (Op.equalIn (d + 1) t (.slice ad n c) (.slice none 0 0)).run P w = .ok ad.isNone w := by
  cases ad <;> simp only [Op.equalIn, Sem.run_bind, run_underlying hu, Result.andThen_ok, Sem.run_pure] <;> rfl

theorem ok_snil (neg : Bool) {t u : TypeId} {e n b : Nat} (htd : tdOf E.P t = some (.sl e n b)) (x : Operand) (ho : o.op = .binOp (if neg then .neq else .eql) t x (.const (.slice none 0 0)) u) {obs : List Ob}
    (he : eSnil neg (ev x) = some (p, eff, obs)) : OpOk E o st nx bs I a w p eff := by
  have hx := hev x
  have hu := (td_sl htd).1
  unfold eSnil at he
  split at he
  · rename_i h1
    rw [h1] at hx
    simp only [Option.some.injEq, Prod.mk.injEq] at he
    obtain ⟨rfl, rfl, rfl⟩ := he
    refine OpOk.val ?_ hR (PVal.val rfl)
    have k : (Op.equal t (.slice none 0 0) (.slice none 0 0)).run E.P w = .ok true w := run_eq_sl hu 9999 none 0 0
    have e2 : a.eval (.const (.slice none 0 0)) = .slice none 0 0 := rfl
    cases neg <;> simp [execOp, ho, hx.v_inv.1, e2, eqGuard, binOp, k]
  · rename_i sz y ys h1
    rw [h1] at hx
    simp only [Option.some.injEq, Prod.mk.injEq] at he
    obtain ⟨rfl, rfl, rfl⟩ := he
    obtain ⟨cs, ad, b, q, cap, hv, k1, k2, k3, k4⟩ := hx.sl_inv
    rw [k3 (by simp)] at hv
    refine OpOk.val ?_ hR (PVal.val rfl)
    obtain ⟨m, hm⟩ : ∃ m, m = (y :: ys).length := ⟨_, rfl⟩
    rw [← hm] at hv
    have k := run_eq_sl (w := w) hu 9999 (some ⟨b, q, none⟩) m cap
    have k2 : (Op.equal t (.slice (some ⟨b, q, none⟩) m cap) (.slice none 0 0)).run E.P w = .ok false w := k
    have e2 : a.eval (.const (.slice none 0 0)) = .slice none 0 0 := rfl
    cases neg <;> simp only [execOp, ho, hv, e2, Bool.false_eq_true, if_true, if_false] <;> simp [eqGuard, binOp, k2]
  · rename_i b sz xs h1
    rw [h1] at hx
    simp only [Option.some.injEq, Prod.mk.injEq] at he
    obtain ⟨rfl, rfl, rfl⟩ := he
    refine OpOk.val ?_ hR (PVal.val rfl)
    have hc := (hx.im_one rfl)
    generalize hv : a.eval x = v at hc
    cases hc with
    | nn _ _ _ ad m cap _ hb =>
      have k := run_eq_sl (w := w) hu 9999 ad m cap
      have k2 : (Op.equal t (.slice ad m cap) (.slice none 0 0)).run E.P w = .ok ad.isNone w := k
      have e2 : a.eval (.const (.slice none 0 0)) = .slice none 0 0 := rfl
      subst hb
      cases neg <;> simp only [execOp, ho, hv, e2, Bool.false_eq_true, if_true, if_false] <;> simp [eqGuard, binOp, k2]
  · cases he

theorem ok_mkf (f : FuncId) (caps : Array Operand) (ho : o.op = .makeFunc (.func f) #[] caps) (h : Hint) {obs : List Ob} (he : opE E.T (.mkf f caps.toList) ev st nx h = some (p, eff, obs)) : OpOk E o st nx bs I a w p eff := by
  simp only [opE] at he
  cases hc : capsOk (caps.toList.map ev) with
  | false => simp [hc] at he
  | true =>
    simp only [hc, cond_true, Option.some.injEq, Prod.mk.injEq] at he
    obtain ⟨rfl, rfl, rfl⟩ := he
    refine OpOk.val (v := .func (.func f) #[] (caps.map a.eval)) (by simp [execOp, ho, Instr.makeFunc]) hR (.one _ _ rfl ?_)
    have key : ∀ (l : List Operand), capsOk (l.map ev) = true → PC bs I (.fn f (l.map ev)) [.func (.func f) #[] ⟨l.map a.eval⟩] := by
      intro l
      induction l with
      | nil => intro _; exact .fnN f
      | cons x l ih =>
        intro hl
        simp only [List.map_cons, capsOk, Bool.and_eq_true, Bool.not_eq_true'] at hl
        refine .fnC f (ev x) (a.eval x) _ _ ?_ (ih hl.2.2)
        exact (hev x).one_inv hl.1 hl.2.1
    have e : caps.map a.eval = ⟨caps.toList.map a.eval⟩ := by apply Array.ext'; simp
    rw [e]
    exact key caps.toList hc

theorem ok_pickH (c x y : Operand) (ho : o.op = .pick c x y) (h : Hint) {obs : List Ob} (he : ePickH (ev c) (ev x) (ev y) h = some (p, eff, obs)) (hob : ∀ q ∈ obs.map Ob.P, q) : OpOk E o st nx bs I a w p eff := by
  have hc := hev c
  unfold ePickH at he
  split at he
  · split at he
    · rename_i t h1
      rw [h1] at hc
      simp only [Option.some.injEq, Prod.mk.injEq] at he
      obtain ⟨rfl, rfl, rfl⟩ := he
      have ht : t = true := hob _ (by simp)
      exact OpOk.val (v := a.eval x) (by simp [execOp, ho, asBool, hc.v_inv.1, ht]) hR (hev x)
    · cases he
  · split at he
    · rename_i t h1
      rw [h1] at hc
      simp only [Option.some.injEq, Prod.mk.injEq] at he
      obtain ⟨rfl, rfl, rfl⟩ := he
      have ht : t = false := hob _ (by simp)
      exact OpOk.val (v := a.eval y) (by simp [execOp, ho, asBool, hc.v_inv.1, ht]) hR (hev y)
    · cases he
  · exact ok_pick hR ev hev c x y ho he hob
end
end Go.Eng
end

section
namespace Go.Eng
open Go Go.RowKit

theorem posOk_ok : ∀ {ds : List (Nat × Nat)}, posOk ds = true → ∀ (k : Nat) (f : Nat × Nat), ds[k]? = some f → 0 < f.2
  | [], _, k, f, hf => by simp at hf
  | (a, n) :: ds, h, k, f, hf => by
    simp only [posOk, Bool.and_eq_true] at h
    cases k with
    | zero => simp at hf; subst hf; simpa [Nat.blt_eq] using h.1
    | succ k => exact posOk_ok h.2 k f (by simpa using hf)

theorem cellsOf_info {P : Program} {u : TypeId} {sz : Nat} (h : P.cellsOf u = sz) (hp : 0 < sz) : ∃ i, P.info? u = some i ∧ i.size = sz := by
  unfold Program.cellsOf at h
  cases hi : P.info? u with
  | none => simp [hi] at h; omega
  | some i => simp [hi] at h; exact ⟨i, rfl, h⟩

section
variable {E : Env} {o : Oper} {st : Sto} {nx : Nat} {bs : Bs} {I : Im} {a : Act} {w : World} {p : PV} {eff : Eff}

theorem ok_call_b (hT : TOk E.P E.T) (hR : E.R st nx bs I w) (ev : Operand → PV) (hev : ∀ x, PVal bs I (ev x) (a.eval x)) (h : Hint) {obs : List Ob} (c : Call) (ho : o.op = .call c)
    (he : opE E.T (cCall E.T c) ev st nx h = some (p, eff, obs)) (hob : ∀ q ∈ obs.map Ob.P, q) : OpOk E o st nx bs I a w p eff := by
  obtain ⟨callee, args, tys⟩ := c
  unfold cCall at he
  simp only at he
  split at he
  · cases he
  · cases he
  · split at he
    · rename_i x t h1 h2
      have e1 : args = #[x] := Array.ext' h1
      have e2 : tys = #[t] := Array.ext' h2
      subst e1; subst e2
      split at he
      · rename_i hi; exact ok_len hR ev hev (hT t _ hi).td x ho h he hob
      · rename_i hi; exact ok_lens hR ev hev (hT t _ hi).td x ho h he
      · cases he
    · cases he
  · split at he
    · rename_i x y t u h1 h2
      have e1 : args = #[x, y] := Array.ext' h1
      have e2 : tys = #[t, u] := Array.ext' h2
      subst e1; subst e2
      split at he
      · rename_i e sz b _ _ _ _ _ _ _ hi hi2
        split at he
        · rename_i i hie
          split at he
          · rename_i cs hcs
            cases hc : (Nat.beq cs.length sz && (Nat.blt 0 sz && Nat.beq t u)) with
            | false => simp only [hc, cond_false] at he; cases he
            | true =>
              simp only [hc, cond_true] at he
              simp only [Bool.and_eq_true] at hc
              have : t = u := Nat.eq_of_beq_eq_true hc.2.2
              subst this
              exact ok_app hR ev hev (hT e i hie) (hT t _ hi).td hcs (Nat.eq_of_beq_eq_true hc.1) (by simpa [Nat.blt_eq] using hc.2.1) x y ho h he hob
          · cases he
        · cases he
      · cases he
    · cases he
  · split at he
    · rename_i x y h1
      have e1 : args = #[x, y] := Array.ext' h1
      subst e1
      exact ok_min hR ev hev tys x y ho he
    · cases he
  · cases he

theorem ok_op (hT : TOk E.P E.T) (hR : E.R st nx bs I w) (ev : Operand → PV) (hev : ∀ x, PVal bs I (ev x) (a.eval x)) (h : Hint) {obs : List Ob}
    (he : opE E.T (cOp E.T o) ev st nx h = some (p, eff, obs)) (hob : ∀ q ∈ obs.map Ob.P, q) : OpOk E o st nx bs I a w p eff := by
  unfold cOp at he
  split at he
  · rename_i x ho; exact ok_mv hR ev hev x (.inl ho) h he
  · rename_i x ho; exact ok_mv hR ev hev x (.inr ho) h he
  · rename_i c x y ho; exact ok_pickH hR ev hev c x y ho h he hob
  · rename_i e ho
    split at he
    · rename_i i hi
      split at he
      · rename_i cs hcs; exact ok_new hR ev hev (hT e i hi) hcs ho h he
      · cases he
    · cases he
  · rename_i e x ho
    split at he
    · rename_i i hi; exact ok_box hR ev hev _ x ho h he hob
    · cases he
  · rename_i t ps ho
    split at he
    · rename_i ds _ fs hi
      cases hc : (offsOk ds fs 0 && posOk ds) with
      | false => simp only [hc, cond_false] at he; cases he
      | true =>
        simp only [hc, cond_true] at he
        simp only [Bool.and_eq_true] at hc
        exact ok_bst hR ev hev (hT t _ hi) rfl rfl hc.1 (posOk_ok hc.2) ps ho h he hob
    · rename_i n e sz _ sz' zs hi
      cases hc : (Nat.beq sz sz' && Nat.blt 0 sz) with
      | false => simp only [hc, cond_false] at he; cases he
      | true =>
        simp only [hc, cond_true] at he
        simp only [Bool.and_eq_true] at hc
        have := Nat.eq_of_beq_eq_true hc.1
        subst this
        exact ok_barr hR ev hev (hT t _ hi) rfl rfl (by simpa [Nat.blt_eq] using hc.2) ps ho h he hob
    · cases he
  · rename_i t n ps ho
    split at he
    · rename_i e sz b _ _ hi
      split at he
      · rename_i i hie
        split at he
        · rename_i cs hcs
          cases hc : (Nat.beq cs.length sz && Nat.ble (n * sz) 16777216 && Nat.blt 0 sz) with
          | false => simp only [hc, cond_false] at he; cases he
          | true =>
            simp only [hc, cond_true] at he
            simp only [Bool.and_eq_true] at hc
            exact ok_bsl hR ev hev (hT e i hie) (hT t _ hi).td hcs (Nat.eq_of_beq_eq_true hc.1.1) (Nat.le_of_ble_eq_true hc.1.2) (by simpa [Nat.blt_eq] using hc.2) ps ho h he hob
        · cases he
      · cases he
    · cases he
  · rename_i t x ho
    split at he
    · rename_i i hi; exact ok_ld hR ev hev (hT t i hi) x ho h he hob
    · cases he
  · rename_i t x y ho
    split at he
    · rename_i i hi
      cases hc : Nat.blt 0 i.size with
      | false => simp only [hc, cond_false] at he; cases he
      | true =>
        simp only [hc, cond_true] at he
        exact ok_sto hR ev hev (hT t i hi) (by simpa [Nat.blt_eq] using hc) x y ho h he hob
    · cases he
  · rename_i t x k ho
    split at he
    · rename_i fs _ _ hi
      split at he
      · rename_i off sz hk
        exact ok_fld hR ev hev (hT t _ hi).td k off sz (by rw [← nth_eq]; exact hk) (fun u h1 h2 => cellsOf_info h1 h2) x ho he
      · cases he
    · cases he
  · rename_i t x i ho
    split at he
    · rename_i n e sz _ _ hi
      cases hc : (Nat.blt 0 sz && Nat.blt 1 n) with
      | false => simp only [hc, cond_false] at he; cases he
      | true =>
        simp only [hc, cond_true] at he
        simp only [Bool.and_eq_true] at hc
        exact ok_idxA hR ev hev (hT t _ hi).td (by simpa [Nat.blt_eq] using hc.1) (by simpa [Nat.blt_eq] using hc.2) x i ho h he hob
    · rename_i e sz b _ _ hi
      cases hc : (Nat.blt 0 sz) with
      | false => simp only [hc, cond_false] at he; cases he
      | true =>
        simp only [hc, cond_true] at he
        exact ok_idxS hR ev hev (hT t _ hi).td (by simpa [Nat.blt_eq] using hc) x i ho h he hob
    · cases he
  · rename_i t x lo hi' ho
    split at he
    · rename_i e sz b _ _ hi
      cases hc : (Nat.blt 0 sz) with
      | false => simp only [hc, cond_false] at he; cases he
      | true =>
        simp only [hc, cond_true] at he
        exact ok_slc hR ev hev (hT t _ hi).td (by simpa [Nat.blt_eq] using hc) x lo hi' ho h he hob
    · cases he
  · rename_i op t x y u ho
    split at he
    · exact ok_bin hR ev hev op x y t u ho he hob
    · exact ok_bin hR ev hev op x y t u ho he hob
    · rename_i hi
      split at he
      · exact ok_beq hR ev hev false x y t u (td_bool (hT t _ hi).td) ho he
      · exact ok_beq hR ev hev true x y t u (td_bool (hT t _ hi).td) ho he
      · cases he
    · rename_i hi
      split at he
      · exact ok_ieq hR ev hev hT false (hT t _ hi).td x y ho h he hob
      · exact ok_ieq hR ev hev hT true (hT t _ hi).td x y ho h he hob
      · cases he
    · rename_i hi
      split at he
      · exact ok_snil hR ev hev false (hT t _ hi).td x ho he
      · exact ok_snil hR ev hev true (hT t _ hi).td x ho he
      · cases he
    · cases he
  · rename_i op t x ho; exact ok_un hR ev hev op t x ho he
  · rename_i s d x ho
    split at he
    · rename_i j _ _ k _ _ h1 h2
      exact ok_cvI hR ev hev k j x s d (td_int (hT s _ h1).td) (td_int (hT d _ h2).td) ho h he
    · rename_i e n b _ _ _ _ h1 h2
      split at he
      · rename_i h3; exact ok_cvStr hR ev hev (hT s _ h1).td (hT e _ h3).td (hT d _ h2).td x ho h he hob
      · cases he
    · rename_i _ _ e n b _ _ h1 h2
      split at he
      · rename_i h3; exact ok_cvByt hR ev hev (hT s _ h1).td (hT d _ h2).td (hT e _ h3).td x ho h he hob
      · cases he
    · cases he
  · rename_i t x ho
    split at he
    · cases he
    · rename_i i hn hi
      exact ok_mki hR ev hev (hT t _ hi) (fun e => by obtain ⟨td, sz, z⟩ := i; simp only at e; subst e; exact hn _ _ rfl) x ho he
    · cases he
  · rename_i x i ho; exact ok_ext hR ev hev x i ho he
  · rename_i fn first caps ho
    split at he
    · rename_i f h1
      have e1 : first = #[] := Array.ext' h1
      subst e1
      exact ok_mkf hR ev hev f caps ho h he
    · cases he
  · rename_i t n c ho
    split at he
    · rename_i e sz b _ _ hi
      split at he
      · rename_i i hie
        split at he
        · rename_i cs hcs
          cases hc : (Nat.beq cs.length sz && Nat.blt 0 sz) with
          | false => simp only [hc, cond_false] at he; cases he
          | true =>
            simp only [hc, cond_true] at he
            simp only [Bool.and_eq_true] at hc
            exact ok_mks hR ev hev (hT e i hie) (hT t _ hi).td hcs (Nat.eq_of_beq_eq_true hc.1) (by simpa [Nat.blt_eq] using hc.2) n c ho h he hob
        · cases he
      · cases he
    · cases he
  · rename_i x ho; exact ok_nck hR ev hev x ho h he
  · rename_i c ho; exact ok_call_b hT hR ev hev h c ho he hob
  · cases he
end
end Go.Eng
end

section
namespace Go.Eng
open Go Go.RowKit

abbrev Fr := List (Nat × PV)
def getF : Fr → Nat → PV
  | [], _ => .unk
  | (k, p) :: l, t => bif Nat.beq k t then p else getF l t
def putF : Fr → Nat → PV → Fr
  | [], t, p => [(t, p)]
  | (k, q) :: l, t, p => bif Nat.beq k t then (k, p) :: l else (k, q) :: putF l t p
theorem getF_putF (l : Fr) (t : Nat) (p : PV) (u : Nat) : getF (putF l t p) u = if t = u then p else getF l u := by
  induction l with
  | nil =>
    by_cases h : t = u
    · subst h; simp [putF, getF, show Nat.beq t t = true by rw [Nat.beq_eq]]
    · have : Nat.beq t u = false := by rw [← Bool.not_eq_true, Nat.beq_eq]; exact h
      simp [putF, getF, this, h]
  | cons a l ih =>
    obtain ⟨k, q⟩ := a
    simp only [putF]
    cases hk : Nat.beq k t with
    | true =>
      have := Nat.eq_of_beq_eq_true hk
      subst this
      by_cases h : k = u
      · subst h; simp [getF, hk]
      · have : Nat.beq k u = false := by rw [← Bool.not_eq_true, Nat.beq_eq]; exact h
        simp [getF, this, h]
    | false =>
      simp only [cond_false, getF, ih]
      by_cases h : t = u
      · subst h; simp [hk]
      · simp [h]

def getG : List (Nat × IV) → Nat → Option IV
  | [], _ => none
  | (k, x) :: l, g => bif Nat.beq k g then some x else getG l g
theorem getG_mem : ∀ {G : List (Nat × IV)} {g : Nat} {x : IV}, getG G g = some x → (g, x) ∈ G
  | [], _, _, h => by cases h
  | (k, y) :: l, g, x, h => by
    simp only [getG] at h
    cases hk : Nat.beq k g with
    | true => simp [hk] at h; have := Nat.eq_of_beq_eq_true hk; subst this; subst h; simp
    | false => simp [hk] at h; exact List.mem_cons_of_mem _ (getG_mem h)

def evF (G : List (Nat × IV)) (fr : Fr) : Operand → PV
  | .tmp t => getF fr t
  | .const v => bif v.oneCell' then .im (.v v) else .unk
  | .global g => match getG G g with
    | some x => .im (.pim (sizeI x) x)
    | none => .unk
  | .func f => .fn f []

structure S where
  fr : Fr
  st : Sto
  nx : Nat
  deriving Inhabited

structure X where
  P : Program
  T : List (Nat × TyI)
  G : List (Nat × IV)
abbrev X.env (X : X) (B : Nat) (L : List Nat) (w0 : World) (I0 : Im) : Env := ⟨X.P, X.T, X.G, B, L, w0, I0⟩

/-- A frame's slots hold what the frame tree says. -/
structure FrOk (N : Nat) (bs : Bs) (I : Im) (fr : Fr) (a : Act) : Prop where
  size : a.tmps.size = N
  defers : a.defers = []
  val : ∀ t, PVal bs I (getF fr t) (a.eval (.tmp t))

theorem FrOk.mono {N : Nat} {bs cs : Bs} {I J : Im} (hb : bs.le cs) (hI : I.le J) {fr : Fr} {a : Act} (h : FrOk N bs I fr a) : FrOk N cs J fr a := ⟨h.size, h.defers, fun t => (h.val t).mono hb hI⟩

theorem FrOk.ev {N : Nat} {E : Env} {st : Sto} {nx : Nat} {bs : Bs} {I : Im} {w : World} (hR : E.R st nx bs I w) {fr : Fr} {a : Act} (h : FrOk N bs I fr a) (x : Operand) : PVal bs I (evF E.G fr x) (a.eval x) := by
  cases x with
  | tmp t => exact h.val t
  | const v =>
    simp only [evF]
    cases hv : v.oneCell' with
    | true => exact .one _ _ rfl (.im _ _ (.v v hv))
    | false => exact .unk _
  | global g =>
    simp only [evF]
    split
    · rename_i x hx
      obtain ⟨cs, h1, h2⟩ := hR.glob g x (getG_mem hx)
      exact .one _ _ rfl (.im _ _ (.pim _ x cs g 0 h1 (sizeI_ok h1) h2))
    · exact .unk _
  | func f => exact .one _ _ rfl (.fnN f)

def putD (N : Nat) (fr : Fr) (d : Option Nat) (p : PV) : Option Fr :=
  match d with
  | none => some fr
  | some t => bif Nat.blt t N then some (putF fr t p) else none

theorem FrOk.put {N : Nat} {bs : Bs} {I : Im} {fr fr' : Fr} {a : Act} (h : FrOk N bs I fr a) {d : Option Nat} {p : PV} {v : Value} (hp : PVal bs I p v) (he : putD N fr d p = some fr') : FrOk N bs I fr' (a.put d v) := by
  cases d with
  | none => simp only [putD, Option.some.injEq] at he; subst he; exact h
  | some t =>
    simp only [putD] at he
    cases hb : Nat.blt t N with
    | false => simp [hb] at he
    | true =>
      simp only [hb, cond_true, Option.some.injEq] at he
      subst he
      have ht : t < a.tmps.size := by rw [h.size]; simpa [Nat.blt_eq] using hb
      refine ⟨by simp [Act.put, h.size], h.defers, fun u => ?_⟩
      rw [getF_putF]
      by_cases hu : t = u
      · subst hu
        simp only [if_true]
        have : (a.put (some t) v).eval (.tmp t) = v := by simp [Act.eval, Act.put, ht]
        rw [this]; exact hp
      · rw [if_neg hu]
        have : (a.put (some t) v).eval (.tmp u) = a.eval (.tmp u) := by
          simp [Act.eval, Act.put, Array.getElem?_setIfInBounds_ne hu]
        rw [this]; exact h.val u

/-! ### Objects that never turn any more -/
def frzO : Sto → List Nat → Sto
  | st, [] => st
  | st, id :: ids => match getO st id with
    | some (.row e sz xs _) => frzO (setO st id (.row e sz xs 2)) ids
    | some (.box _ n t) => frzO (setO st id (.box true n t)) ids
    | none => frzO st ids

theorem frzO_ok {E : Env} {nx : Nat} {bs : Bs} {w : World} : ∀ {ids : List Nat} {st : Sto} {I : Im}, E.R st nx bs I w → ∃ I', I.le I' ∧ E.R (frzO st ids) nx bs I' w
  | [], _, I, h => ⟨I, Im.le_refl _, h⟩
  | id :: ids, st, I, h => by
    simp only [frzO]
    split
    · rename_i e sz xs m ho
      obtain ⟨I1, h1, h2⟩ := ORel.frzRow h ho
      obtain ⟨I2, h3, h4⟩ := frzO_ok (ids := ids) h2
      exact ⟨I2, Im.le_trans h1 h3, h4⟩
    · rename_i fz n t ho
      obtain ⟨I1, h1, h2⟩ := ORel.frzBox h ho
      obtain ⟨I2, h3, h4⟩ := frzO_ok (ids := ids) h2
      exact ⟨I2, Im.le_trans h1 h3, h4⟩
    · exact frzO_ok h

/-! ### One operation -/
/-- Is it wanted? -/
def wants (fr : Fr) (g : Option (Option Nat × Bool)) (h : Hint) : Option (Bool × Hint × List Ob) :=
  match g with
  | none => some (true, h, [])
  | some (none, _) => none
  | some (some t, b) => match getF fr t with
    | .im (.v (.bool c)) => match h with
      | .gt h => some (true, h, [oD (c = b)])
      | .gf => some (false, .no, [oD (c = !b)])
      | _ => none
    | .tup [] => some (false, .no, [])
    | _ => none

def exec0 (X : X) (ci : CI) (fr : Fr) (st : Sto) (nx : Nat) (h : Hint) : Option (PV × Sto × Nat × List Ob) :=
  match wants fr ci.g h with
  | some (true, h, obs) => match h with
    | .fz ids h => match opE X.T ci.op (evF X.G fr) (frzO st ids) nx h with
      | some (p, eff, obs') => some (p, effS (frzO st ids) nx eff, effN nx eff, obs ++ obs')
      | none => none
    | h => match opE X.T ci.op (evF X.G fr) st nx h with
      | some (p, eff, obs') => some (p, effS st nx eff, effN nx eff, obs ++ obs')
      | none => none
  | some (false, _, obs) => some (.tup [], st, nx, obs)
  | none => none

/-- The arguments' trees, and the values. -/
inductive PVs (bs : Bs) (I : Im) : List PV → List Value → Prop
  | nil : PVs bs I [] []
  | cons (p : PV) (v : Value) (ps : List PV) (vs : List Value) : PVal bs I p v → PVs bs I ps vs → PVs bs I (p :: ps) (v :: vs)

/-- A function, called: from trees to trees. -/
def JF (X : X) (f : FuncId) (args : List PV) (st : Sto) (nx : Nat) (res : PV) (st' : Sto) (nx' : Nat) : Prop :=
  ∀ (B : Nat) (L : List Nat) (w0 : World) (I0 : Im) (bs : Bs) (I : Im) (w : World) (vals : List Value), (X.env B L w0 I0).R st nx bs I w → PVs bs I args vals →
    Calls X.P f ⟨vals⟩ w fun e w' => ∃ v bs' I', e = .returned v ∧ bs.le bs' ∧ I.le I' ∧ (X.env B L w0 I0).R st' nx' bs' I' w' ∧ PVal bs' I' res v

/-- One operation of a region: what it yields, and the store behind it. -/
def JV (X : X) (N : Nat) (ops : Array Oper) (o : Oper) (fr : Fr) (st : Sto) (nx : Nat) (p : PV) (st' : Sto) (nx' : Nat) : Prop :=
  ∀ (B : Nat) (L : List Nat) (w0 : World) (I0 : Im) (bs : Bs) (I : Im) (a : Act) (w : World) (K : Act → World → Prop) (Q : Exit → Act → World → Prop),
    (X.env B L w0 I0).R st nx bs I w → FrOk N bs I fr a →
    (∀ v w' bs' I', bs.le bs' → I.le I' → (X.env B L w0 I0).R st' nx' bs' I' w' → PVal bs' I' p v → K (a.put o.dst v) w') →
    if Region.wanted o (yielded ops a.tmps) then o.wp X.P a w K Q else K (a.put o.dst undef) w

/-- One operation of a region, from state to state. -/
def JO (X : X) (N : Nat) (ops : Array Oper) (o : Oper) (s s' : S) : Prop := ∃ p, JV X N ops o s.fr s.st s.nx p s'.st s'.nx ∧ putD N s.fr o.dst p = some s'.fr

theorem wants_ok {X : X} {ops : Array Oper} {o : Oper} {N : Nat} {bs : Bs} {I : Im} {fr : Fr} {a : Act} (hf : FrOk N bs I fr a) {h h' : Hint} {b : Bool} {obs : List Ob}
    (he : wants fr (cOper X.T ops o).g h = some (b, h', obs)) (hob : ∀ q ∈ obs.map Ob.P, q) : Region.wanted o (yielded ops a.tmps) = b := by
  unfold Region.wanted
  simp only [cOper] at he
  cases hg : o.guard with
  | none => rw [hg] at he; simp only [wants, Option.some.injEq, Prod.mk.injEq] at he; simp [he.1]
  | some jb =>
    obtain ⟨j, want⟩ := jb
    rw [hg] at he
    simp only [wants] at he
    simp only
    cases ht : (ops[j]?).bind (·.dst) with
    | none => rw [ht] at he; simp at he
    | some t =>
      rw [ht] at he
      simp only at he
      have hv := hf.val t
      have hy : ∀ c, a.eval (.tmp t) = .bool c → yielded ops a.tmps j = some c := by
        intro c hc
        have : a.tmps[t]? = some (.bool c) := by
          simp only [Act.eval, Array.getD_eq_getD_getElem?] at hc
          cases hx : a.tmps[t]? with
          | none => rw [hx] at hc; simp [undef] at hc
          | some u => rw [hx] at hc; simpa using hc
        simp [yielded, ht, this]
      split at he
      · rename_i c hc
        rw [hc] at hv
        have e1 := hy c hv.v_inv.1
        split at he
        · simp only [Option.some.injEq, Prod.mk.injEq] at he
          obtain ⟨rfl, rfl, rfl⟩ := he
          have : c = want := hob _ (by simp)
          simp [e1, this]
        · simp only [Option.some.injEq, Prod.mk.injEq] at he
          obtain ⟨rfl, rfl, rfl⟩ := he
          have : c = !want := hob _ (by simp)
          rw [e1, this]; cases want <;> rfl
        · cases he
      · rename_i hc
        rw [hc] at hv
        simp only [Option.some.injEq, Prod.mk.injEq] at he
        obtain ⟨rfl, rfl, rfl⟩ := he
        have hu : a.eval (.tmp t) = .tuple #[] := by
          generalize a.eval (.tmp t) = v at hv
          cases hv with
          | agg _ _ ha _ => simp [PV.isAgg] at ha
          | one _ _ _ hc => cases hc
          | tupN => rfl
        have : yielded ops a.tmps j = none := by
          simp only [Act.eval, Array.getD_eq_getD_getElem?] at hu
          cases hx : a.tmps[t]? with
          | none => simp [yielded, ht, hx]
          | some u => rw [hx] at hu; simp at hu; simp [yielded, ht, hx, hu]
        simp [this]
      · cases he

theorem exec0_ok {X : X} (hT : TOk X.P X.T) {N : Nat} {ops : Array Oper} {o : Oper} {fr : Fr} {st st' : Sto} {nx nx' : Nat} {p : PV} {h : Hint} {obs : List Ob}
    (he : exec0 X (cOper X.T ops o) fr st nx h = some (p, st', nx', obs)) (hob : ∀ q ∈ obs.map Ob.P, q) : JV X N ops o fr st nx p st' nx' := by
  intro B L w0 I0 bs I a w K Q hR hF hK
  unfold exec0 at he
  split at he
  · rename_i h1 obs1 hw
    -- the operation, from a store
    have main : ∀ (st1 : Sto) (I1 : Im) (h2 : Hint), I.le I1 → (X.env B L w0 I0).R st1 nx bs I1 w →
        (match opE X.T (cOper X.T ops o).op (evF X.G fr) st1 nx h2 with
          | some (p, eff, obs') => some (p, effS st1 nx eff, effN nx eff, obs1 ++ obs')
          | none => none) = some (p, st', nx', obs) → if Region.wanted o (yielded ops a.tmps) then o.wp X.P a w K Q else K (a.put o.dst undef) w := by
      intro st1 I1 h2 hI hR1 he
      split at he
      · rename_i p1 eff obs' hop
        simp only [Option.some.injEq, Prod.mk.injEq] at he
        obtain ⟨rfl, rfl, rfl, rfl⟩ := he
        have hF1 := hF.mono (Bs.le_refl _) hI
        have hw' := wants_ok hF hw (fun q hq => hob q (by rw [List.map_append]; exact List.mem_append_left _ hq))
        rw [if_pos hw']
        refine ok_op (E := X.env B L w0 I0) hT hR1 (evF X.G fr) (fun x => hF1.ev hR1 x) h2 hop (fun q hq => hob q (by rw [List.map_append]; exact List.mem_append_right _ hq)) K Q ?_
        intro v w' bs' I' hb hI' hR' hp
        exact hK v w' bs' I' hb (Im.le_trans hI hI') hR' hp
      · cases he
    split at he
    · rename_i ids h2
      obtain ⟨I1, hI1, hR1⟩ := frzO_ok (ids := ids) hR
      exact main _ I1 h2 hI1 hR1 he
    · exact main _ I _ (Im.le_refl _) hR he
  · rename_i h1 obs1 hw
    simp only [Option.some.injEq, Prod.mk.injEq] at he
    obtain ⟨rfl, rfl, rfl, rfl⟩ := he
    have hw' := wants_ok hF hw hob
    rw [hw']
    simp only [Bool.false_eq_true, if_false]
    exact hK undef w bs I (Bs.le_refl _) (Im.le_refl _) hR .tupN
  · cases he
end Go.Eng
end

section
namespace Go.Eng
open Go Go.RowKit

/-! ### Calls -/
def HasBody (P : Program) (f : FuncId) : Prop := ∃ fn, P.funcs[f]? = some fn ∧ fn.body.isSome = true ∧ fn.name ≠ "runtime.NumGoroutine"

/-- A function's value, and what it has caught. -/
def fnOf : PV → Option (FuncId × List PV)
  | .fn f caps => bif capsOk caps then some (f, caps) else none
  | .im (.fn f caps) => bif capsOk (caps.map PV.im) then some (f, caps.map PV.im) else none
  | _ => none

theorem PVs.append {bs : Bs} {I : Im} {ps qs : List PV} {vs us : List Value} (h : PVs bs I ps vs) (k : PVs bs I qs us) : PVs bs I (ps ++ qs) (vs ++ us) := by
  induction h with
  | nil => exact k
  | cons p v ps vs hp _ ih => exact .cons p v _ _ hp ih

theorem PC.fn_inv {bs : Bs} {I : Im} {f : FuncId} : ∀ {caps : List PV} {v : Value}, PC bs I (.fn f caps) [v] → capsOk caps = true → ∃ us, v = .func (.func f) #[] ⟨us⟩ ∧ PVs bs I caps us
  | [], _, h, _ => by cases h; exact ⟨[], rfl, .nil⟩
  | x :: caps, _, h, hk => by
    simp only [capsOk, Bool.and_eq_true, Bool.not_eq_true'] at hk
    cases h with
    | fnC _ _ u _ vs h1 h2 =>
      obtain ⟨us, e, h3⟩ := PC.fn_inv h2 hk.2.2
      simp only [Value.func.injEq, Array.mk.injEq, true_and] at e
      subst e
      exact ⟨u :: vs, rfl, .cons _ _ _ _ (.one _ _ hk.2.1 h1) h3⟩

theorem RC.caps {I : Im} {bs : Bs} : ∀ {caps : List IV} {vs : List Value}, RC I (.arr 1 caps) vs → capsOk (caps.map PV.im) = true → PVs bs I (caps.map PV.im) vs
  | [], _, h, _ => by cases h; exact .nil
  | x :: caps, _, h, hk => by
    simp only [List.map_cons, capsOk, Bool.and_eq_true, Bool.not_eq_true'] at hk
    cases h with
    | arrC _ _ _ c cs h1 h2 h3 =>
      obtain ⟨u, rfl⟩ : ∃ u, c = [u] := by
        match c, h2 with
        | [u], _ => exact ⟨u, rfl⟩
      exact .cons _ _ _ _ (.one _ _ hk.2.1 (.im _ _ h1)) (RC.caps h3 hk.2.2)

theorem fnOf_ok {bs : Bs} {I : Im} {p : PV} {v : Value} (h : PVal bs I p v) {f : FuncId} {caps : List PV} (he : fnOf p = some (f, caps)) : ∃ us, v = .func (.func f) #[] ⟨us⟩ ∧ PVs bs I caps us := by
  unfold fnOf at he
  split at he
  · rename_i g cs
    cases hk : capsOk cs with
    | false => simp [hk] at he
    | true =>
      simp only [hk, cond_true, Option.some.injEq, Prod.mk.injEq] at he
      obtain ⟨rfl, rfl⟩ := he
      exact PC.fn_inv (h.one_inv rfl rfl) hk
  · rename_i g cs
    cases hk : capsOk (cs.map PV.im) with
    | false => simp [hk] at he
    | true =>
      simp only [hk, cond_true, Option.some.injEq, Prod.mk.injEq] at he
      obtain ⟨rfl, rfl⟩ := he
      have := (h.one_inv rfl rfl).im_inv
      cases this with
      | fn _ _ vs h1 => exact ⟨vs, rfl, RC.caps h1 hk⟩
  · cases he

theorem PVs.map {bs : Bs} {I : Im} {ev : Operand → PV} {a : Act} (hev : ∀ x, PVal bs I (ev x) (a.eval x)) : ∀ (l : List Operand), PVs bs I (l.map ev) (l.map a.eval)
  | [] => .nil
  | x :: l => .cons _ _ _ _ (hev x) (PVs.map hev l)

theorem callOp_ok {X : X} {N : Nat} {ops : Array Oper} {o : Oper} {c : Call} (ho : o.op = .call c) {x : Operand} (hc : c.callee = .value x) {fr : Fr} {st : Sto} {nx : Nat} {h h' : Hint} {obs : List Ob}
    (hw : wants fr (cOper X.T ops o).g h = some (true, h', obs)) (hob : ∀ q ∈ obs.map Ob.P, q) {f : FuncId} {caps : List PV} (hf : fnOf (evF X.G fr x) = some (f, caps)) (hb : HasBody X.P f)
    {res : PV} {st' : Sto} {nx' : Nat} (hj : JF X f (c.args.toList.map (evF X.G fr) ++ caps) st nx res st' nx') : JV X N ops o fr st nx res st' nx' := by
  intro B L w0 I0 bs I a w K Q hR hF hK
  rw [if_pos (wants_ok hF hw hob)]
  have hev : ∀ y, PVal bs I (evF X.G fr y) (a.eval y) := fun y => hF.ev hR y
  obtain ⟨us, hv, hus⟩ := fnOf_ok (hev x) hf
  obtain ⟨fn, h1, h2, h3⟩ := hb
  have hrun : (execOp a.eval o).run X.P w = .ok (.enter f ⟨c.args.toList.map a.eval ++ us⟩) w := by
    obtain ⟨c0, hbn⟩ : ∃ c0, fn.body = some c0 := by
      cases hbb : fn.body with
      | none => rw [hbb] at h2; cases h2
      | some c0 => exact ⟨c0, rfl⟩
    have hargs : c.args.map a.eval ++ (⟨us⟩ : Array Value) = ⟨c.args.toList.map a.eval ++ us⟩ := by apply Array.ext'; simp
    simp [execOp, ho, resolve, hc, hv, Deferred.ofValue, invoke, callFunc, h1, h3, hbn, hargs]
  unfold Oper.wp
  rw [hrun]
  simp only [Oper.upon]
  refine (hj B L w0 I0 bs I w _ hR ((PVs.map hev _).append hus)).mono ?_
  rintro e w' ⟨v, bs', I', rfl, hbs, hI, hR', hp⟩
  exact hK v w' bs' I' hbs hI hR' hp

/-! ### Regions -/
def JOs (X : X) (N : Nat) (ops : Array Oper) : List Oper → S → S → Prop
  | [], s, s' => s' = s
  | o :: l, s, s' => ∃ s1, JO X N ops o s s1 ∧ JOs X N ops l s1 s'

theorem JOs.wp {X : X} {N : Nat} {ops : Array Oper} {B : Nat} {L : List Nat} {w0 : World} {I0 : Im} {Q : Exit → Act → World → Prop} : ∀ {l : List Oper} {s s' : S}, JOs X N ops l s s' → ∀ {bs : Bs} {I : Im} {a : Act} {w : World},
    (X.env B L w0 I0).R s.st s.nx bs I w → FrOk N bs I s.fr a →
    (∀ a' w' bs' I', bs.le bs' → I.le I' → (X.env B L w0 I0).R s'.st s'.nx bs' I' w' → FrOk N bs' I' s'.fr a' → Q .normal a' w') → wpList X.P ops Q l a w
  | [], s, s', h, bs, I, a, w, hR, hF, hQ => by
    cases h
    exact hQ a w bs I (Bs.le_refl _) (Im.le_refl _) hR hF
  | o :: l, s, s', ⟨s1, ⟨p, h1, hput⟩, h2⟩, bs, I, a, w, hR, hF, hQ => by
    have := h1 B L w0 I0 bs I a w (wpList X.P ops Q l) Q hR hF (fun v w' bs' I' hb hI hR' hp =>
      JOs.wp h2 hR' ((hF.mono hb hI).put hp hput) (fun a2 w2 bs2 I2 hb2 hI2 hR2 hF2 => hQ a2 w2 bs2 I2 (Bs.le_trans hb hb2) (Im.le_trans hI hI2) hR2 hF2))
    unfold wpList
    split
    · rename_i hw; rw [if_pos hw] at this; exact .inl this
    · rename_i hw; rw [if_neg hw] at this; exact this

/-! ### Code -/
inductive Ex where
  | nrm | ext (id : Nat) | ret
  deriving Inhabited
def Ex.exit : Ex → Exit
  | .nrm => .normal
  | .ext id => .exit id
  | .ret => .ret

/-- After it: the state, and where it goes on. -/
def After (X : X) (N : Nat) (B : Nat) (L : List Nat) (w0 : World) (I0 : Im) (bs : Bs) (I : Im) (e : Ex) (s : S) (Q : Exit → Act → World → Prop) : Prop :=
  ∀ a' w' bs' I', bs.le bs' → I.le I' → (X.env B L w0 I0).R s.st s.nx bs' I' w' → FrOk N bs' I' s.fr a' → Q e.exit a' w'

def JC (X : X) (N : Nat) (c : Code) (s : S) (e : Ex) (s' : S) : Prop :=
  ∀ (B : Nat) (L : List Nat) (w0 : World) (I0 : Im) (bs : Bs) (I : Im) (a : Act) (w : World) (Q : Exit → Act → World → Prop), (X.env B L w0 I0).R s.st s.nx bs I w → FrOk N bs I s.fr a →
    After X N B L w0 I0 bs I e s' Q → c.wp X.P Q a w

theorem After.later {X : X} {N B : Nat} {L : List Nat} {w0 : World} {I0 : Im} {bs bs1 : Bs} {I I1 : Im} {e : Ex} {s : S} {Q : Exit → Act → World → Prop} (h : After X N B L w0 I0 bs I e s Q) (hb : bs.le bs1) (hI : I.le I1) :
    After X N B L w0 I0 bs1 I1 e s Q := fun a' w' bs' I' hb' hI' hR hF => h a' w' bs' I' (Bs.le_trans hb hb') (Im.le_trans hI hI') hR hF

theorem JC.reg {X : X} {N : Nat} {id : Nat} {ops : Array Oper} {s s' : S} (h : JOs X N ops ops.toList s s') : JC X N (.region id ops false) s .nrm s' :=
  fun _ _ _ _ _ _ _ _ _ hR hF hQ => wp_region_list (h.wp hR hF hQ)
theorem JC.skip {X : X} {N : Nat} {s : S} : JC X N .skip s .nrm s := fun _ _ _ _ bs I a w _ hR hF hQ => wp_skip (hQ a w bs I (Bs.le_refl _) (Im.le_refl _) hR hF)
theorem JC.exit {X : X} {N id : Nat} {s : S} : JC X N (.exit id) s (.ext id) s := fun _ _ _ _ bs I a w _ hR hF hQ => wp_exit (hQ a w bs I (Bs.le_refl _) (Im.le_refl _) hR hF)
theorem JC.ret {X : X} {N : Nat} {s : S} : JC X N .ret s .ret s := fun _ _ _ _ bs I a w _ hR hF hQ => wp_ret (hQ a w bs I (Bs.le_refl _) (Im.le_refl _) hR hF)
theorem JC.seq {X : X} {N : Nat} {c d : Code} {s s1 s2 : S} {e : Ex} (h : JC X N c s .nrm s1) (k : JC X N d s1 e s2) : JC X N (.seq c d) s e s2 :=
  fun B L w0 I0 bs I a w Q hR hF hQ => wp_seq (h B L w0 I0 bs I a w _ hR hF fun a' w' bs' I' hb hI hR' hF' => k B L w0 I0 bs' I' a' w' Q hR' hF' (hQ.later hb hI))
theorem JC.seq_out {X : X} {N : Nat} {c d : Code} {s s1 : S} {e : Ex} (h : JC X N c s e s1) (he : e ≠ .nrm) : JC X N (.seq c d) s e s1 :=
  fun B L w0 I0 bs I a w Q hR hF hQ => wp_seq (h B L w0 I0 bs I a w _ hR hF fun a' w' bs' I' hb hI hR' hF' => by
    have := hQ a' w' bs' I' hb hI hR' hF'
    cases e with
    | nrm => exact absurd rfl he
    | ext id => exact this
    | ret => exact this)
theorem JC.cond {X : X} {N : Nat} {x : Operand} {c d : Code} {s s1 : S} {e : Ex} {t : Bool} (hx : evF X.G s.fr x = .im (.v (.bool t))) (h : JC X N (if t then c else d) s e s1) : JC X N (.cond x c d) s e s1 :=
  fun B L w0 I0 bs I a w Q hR hF hQ => by
    have hv := hF.ev hR x
    rw [show (X.env B L w0 I0).G = X.G from rfl, hx] at hv
    refine wp_cond hv.v_inv.1 ?_
    have := h B L w0 I0 bs I a w Q hR hF hQ
    cases t <;> exact this
theorem JC.blk {X : X} {N id : Nat} {c : Code} {s s1 : S} {e e' : Ex} (h : JC X N c s e s1) (he : (e = .ext id ∧ e' = .nrm) ∨ (e ≠ .ext id ∧ e' = e)) : JC X N (.block id c) s e' s1 :=
  fun B L w0 I0 bs I a w Q hR hF hQ => wp_block (h B L w0 I0 bs I a w _ hR hF fun a' w' bs' I' hb hI hR' hF' => by
    have := hQ a' w' bs' I' hb hI hR' hF'
    rcases he with ⟨rfl, rfl⟩ | ⟨hne, rfl⟩
    · simpa [Ex.exit, Exit.inBlock] using this
    · cases e' with
      | nrm => exact this
      | ext k =>
        have hk : k ≠ id := fun q => hne (by rw [q])
        simp only [Ex.exit, Exit.inBlock, if_neg hk]; exact this
      | ret => exact this)

/-- A loop's rounds, as many as it takes. -/
def JL (X : X) (N : Nat) (c : Code) (s : S) (e : Ex) (s' : S) : Prop :=
  ∃ n, ∀ (B : Nat) (L : List Nat) (w0 : World) (I0 : Im) (bs : Bs) (I : Im) (a : Act) (w : World) (Q : Exit → Act → World → Prop), (X.env B L w0 I0).R s.st s.nx bs I w → FrOk N bs I s.fr a →
    After X N B L w0 I0 bs I e s' Q → Code.rounds X.P c Q n a w
theorem JL.again {X : X} {N : Nat} {c : Code} {s s1 s2 : S} {e : Ex} (h : JC X N c s .nrm s1) (k : JL X N c s1 e s2) : JL X N c s e s2 := by
  obtain ⟨n, k⟩ := k
  refine ⟨n + 1, fun B L w0 I0 bs I a w Q hR hF hQ => ?_⟩
  rw [rounds_succ]
  exact h B L w0 I0 bs I a w _ hR hF fun a' w' bs' I' hb hI hR' hF' => k B L w0 I0 bs' I' a' w' Q hR' hF' (hQ.later hb hI)
theorem JL.out {X : X} {N : Nat} {c : Code} {s s1 : S} {e : Ex} (h : JC X N c s e s1) (he : e ≠ .nrm) : JL X N c s e s1 := by
  refine ⟨1, fun B L w0 I0 bs I a w Q hR hF hQ => ?_⟩
  rw [rounds_succ]
  refine h B L w0 I0 bs I a w _ hR hF fun a' w' bs' I' hb hI hR' hF' => ?_
  have := hQ a' w' bs' I' hb hI hR' hF'
  cases e with
  | nrm => exact absurd rfl he
  | ext id => exact this
  | ret => exact this
theorem JC.loop {X : X} {N : Nat} {c : Code} {s s' : S} {e : Ex} (h : JL X N c s e s') : JC X N (.loop c) s e s' := by
  obtain ⟨n, h⟩ := h
  exact fun B L w0 I0 bs I a w Q hR hF hQ => wp_loop_rounds n (h B L w0 I0 bs I a w Q hR hF hQ)

/-! ### Functions -/
inductive Rv where
  | t (n : Nat)
  | c (a ty : Nat)
def Rv.var : Rv → ResultVar
  | .t n => .tmp n
  | .c a ty => .cell a ty

structure FnI where
  N : Nat
  cc : CC
  res : List Rv

def FnOk (X : X) (f : FuncId) (i : FnI) : Prop :=
  ∃ fn c, X.P.funcs[f]? = some fn ∧ fn.body = some c ∧ cCode X.T c = some i.cc ∧ fn.ntmps = i.N ∧ fn.results = (i.res.map Rv.var).toArray ∧ fn.name ≠ "runtime.NumGoroutine"

theorem FnOk.body {X : X} {f : FuncId} {i : FnI} (h : FnOk X f i) : HasBody X.P f := by
  obtain ⟨fn, c, h1, h2, _, _, _, h3⟩ := h
  exact ⟨fn, h1, by rw [h2]; rfl, h3⟩

def enterF : Nat → List PV → Fr
  | _, [] => []
  | i, p :: ps => (i, p) :: enterF (i + 1) ps

def cellP (st : Sto) (i : TyI) : PV → Option PV
  | .ref id [] => match getO st id with
    | some (.box _ n t) => bif Nat.beq n i.size && (t.isAgg == i.td.isAgg) then some t else none
    | _ => none
  | _ => none

def rvP (T : List (Nat × TyI)) (s : S) : Rv → Option PV
  | .t n => some (getF s.fr n)
  | .c a ty => match getT T ty with
    | some i => cellP s.st i (getF s.fr a)
    | none => none
def rvsP (T : List (Nat × TyI)) (s : S) : List Rv → Option (List PV)
  | [] => some []
  | r :: l => match rvP T s r, rvsP T s l with
    | some p, some ps => some (p :: ps)
    | _, _ => none
def resP (T : List (Nat × TyI)) (s : S) (l : List Rv) : Option PV :=
  match rvsP T s l with
  | some [p] => some p
  | some ps => some (.tup ps)
  | none => none

theorem cellP_ok {E : Env} {st : Sto} {nx : Nat} {bs : Bs} {I : Im} {w : World} (hR : E.R st nx bs I w) {t : TypeId} {i : TyI} (hi : TyOk E.P t i) {q p : PV} {v : Value} (hq : PVal bs I q v) (he : cellP st i q = some p) :
    ∃ u, (do loadVar t (← asAddr v) : Sem Value).run E.P w = .ok u w ∧ PVal bs I p u := by
  unfold cellP at he
  split at he
  · rename_i id
    obtain ⟨b, hv, hb⟩ := hq.ref_inv
    split at he
    · rename_i fz n tr hob
      obtain ⟨g, vs, T, e1, e2, e3, e4, _⟩ := hR.free hob hb
      simp only [Value.pointer.injEq, Option.some.injEq, Addr.mk.injEq] at e1
      obtain ⟨rfl, _, _⟩ := e1
      have hcell : ∀ (j : Nat) (u : Value), vs[j]? = some u → w.cell? ⟨b, 0 + j, none⟩ = some u := fun j u hu => by
        rw [Nat.zero_add, cell_of_row w b j _ T _ e2]; simpa using hu
      cases hc : (Nat.beq n i.size && (tr.isAgg == i.td.isAgg)) with
      | false => simp [hc] at he
      | true =>
        simp only [hc, cond_true, Option.some.injEq] at he
        subst he
        simp only [Bool.and_eq_true, beq_iff_eq] at hc
        have hn : vs.length = i.size := e4.trans (Nat.eq_of_beq_eq_true hc.1)
        obtain ⟨k1, k2⟩ := run_loadVar_at hi w b 0 vs hcell hn
        have hv0 : v = .pointer (some ⟨b, 0, none⟩) := by rw [hv]; rfl
        cases hg : i.td.isAgg with
        | true => exact ⟨.agg ⟨vs⟩, by simp [hv0, asAddr, k1 hg], .agg _ vs (by rw [hc.2, hg]) e3⟩
        | false =>
          have h3 := sizeP_ok e3
          have hone : ∃ u, vs = [u] := by
            have hs : sizeP tr = 1 := by
              have ha := hc.2
              rw [hg] at ha
              cases tr with
              | im x => cases x <;> first | rfl | (simp [PV.isAgg, IV.isAgg] at ha)
              | st => simp [PV.isAgg] at ha
              | _ => rfl
            rw [hs] at h3
            match vs, h3 with
            | [u], _ => exact ⟨u, rfl⟩
          obtain ⟨u, rfl⟩ := hone
          exact ⟨u, by simp [hv0, asAddr, k2 hg u rfl], .one _ u (by rw [hc.2, hg]) e3⟩
    · cases he
  · cases he

theorem enterF_ok {bs : Bs} {I : Im} : ∀ {args : List PV} {vals : List Value} (k : Nat), PVs bs I args vals → ∀ (t : Nat) (rest : List Value), k ≤ t → PVal bs I (getF (enterF k args) t) (((vals ++ rest)[t - k]?).getD undef)
  | [], _, k, h, t, rest, _ => by simp only [enterF, getF]; exact .unk _
  | p :: ps, _, k, h, t, rest, hk => by
    cases h with
    | cons _ v _ vs hp hps =>
      simp only [enterF, getF]
      cases hb : Nat.beq k t with
      | true => have := Nat.eq_of_beq_eq_true hb; subst this; simpa using hp
      | false =>
        have hne : k ≠ t := fun q => by rw [← Nat.beq_eq] at q; rw [hb] at q; cases q
        simp only [cond_false]
        have := enterF_ok (k + 1) hps t rest (by omega)
        rw [show t - k = (t - (k + 1)) + 1 by omega]
        simpa using this

theorem PVs.length {bs : Bs} {I : Im} {ps : List PV} {vs : List Value} (h : PVs bs I ps vs) : ps.length = vs.length := by
  induction h with
  | nil => rfl
  | cons _ _ _ _ _ _ ih => simp [ih]

def rvGo (tmps : Array Value) : ResultVar → Sem Value
  | .tmp t => pure (tmps.getD t undef)
  | .cell a t => do loadVar t (← asAddr (tmps.getD a undef))

theorem rvs_run {X : X} (hT : TOk X.P X.T) {N B : Nat} {L : List Nat} {w0 : World} {I0 : Im} {s : S} {bs : Bs} {I : Im} {a : Act} {w : World} (hR : (X.env B L w0 I0).R s.st s.nx bs I w) (hF : FrOk N bs I s.fr a) :
    ∀ {l : List Rv} {ps : List PV}, rvsP X.T s l = some ps → ∃ vs, ((l.map Rv.var).mapM (rvGo a.tmps)).run X.P w = .ok vs w ∧ PVs bs I ps vs
  | [], ps, h => by simp only [rvsP, Option.some.injEq] at h; subst h; exact ⟨[], by simp, .nil⟩
  | r :: l, ps, h => by
    simp only [rvsP] at h
    split at h
    · rename_i p ps' h1 h2
      simp only [Option.some.injEq] at h
      subst h
      obtain ⟨vs, k1, k2⟩ := rvs_run hT hR hF h2
      have : ∃ u, (rvGo a.tmps r.var).run X.P w = .ok u w ∧ PVal bs I p u := by
        cases r with
        | t n =>
          simp only [rvP, Option.some.injEq] at h1
          subst h1
          exact ⟨a.eval (.tmp n), by simp [rvGo, Rv.var, Act.eval], hF.val n⟩
        | c b ty =>
          simp only [rvP] at h1
          split at h1
          · rename_i i hi
            exact cellP_ok hR (hT ty i hi) (hF.val b) h1
          · cases h1
      obtain ⟨u, m1, m2⟩ := this
      exact ⟨u :: vs, by simp only [List.map_cons, List.mapM_cons, Sem.run_bind, m1, Result.andThen_ok, k1, Sem.run_pure], .cons _ _ _ _ m2 k2⟩
    · cases h

theorem PVs.tup {bs : Bs} {I : Im} {ps : List PV} {vs : List Value} (h : PVs bs I ps vs) : PVal bs I (.tup ps) (.tuple ⟨vs⟩) := by
  induction h with
  | nil => exact .tupN
  | cons p v ps vs hp _ ih => exact .tupC _ _ _ _ hp ih

theorem results_ok {X : X} (hT : TOk X.P X.T) {N B : Nat} {L : List Nat} {w0 : World} {I0 : Im} {s : S} {bs : Bs} {I : Im} {a : Act} {w : World} (hR : (X.env B L w0 I0).R s.st s.nx bs I w) (hF : FrOk N bs I s.fr a)
    {fn : Func} {l : List Rv} (hres : fn.results = (l.map Rv.var).toArray) {p : PV} (h : resP X.T s l = some p) : ∃ v, (results fn a.tmps).run X.P w = .ok v w ∧ PVal bs I p v := by
  have main : ∀ ps, rvsP X.T s l = some ps → ∃ vs, PVs bs I ps vs ∧ (results fn a.tmps).run X.P w = .ok (if h : vs.toArray.size = 1 then vs.toArray[0] else .tuple vs.toArray) w := by
    intro ps hps
    obtain ⟨vs, k1, k2⟩ := rvs_run hT hR hF hps
    refine ⟨vs, k2, ?_⟩
    unfold results
    rw [hres, List.mapM_toArray]
    simp only [Sem.run_bind, Sem.run_map]
    refine (congrArg (fun r => Result.andThen (Result.andThen r _) _) k1).trans ?_
    simp only [Result.andThen_ok, Sem.run_pure]
  unfold resP at h
  split at h
  · rename_i q hq
    simp only [Option.some.injEq] at h
    subst h
    obtain ⟨vs, k1, k2⟩ := main _ hq
    cases k1 with
    | cons _ v _ vs' h1 h2 =>
      cases h2
      exact ⟨v, by simpa using k2, h1⟩
  · rename_i ps hne hq
    simp only [Option.some.injEq] at h
    subst h
    obtain ⟨vs, k1, k2⟩ := main _ hq
    have hl := k1.length
    have : vs.toArray.size ≠ 1 := by
      intro h1
      simp at h1
      rw [h1] at hl
      match ps, hl with
      | [q], _ => exact hne q rfl
    rw [dif_neg this] at k2
    exact ⟨_, k2, k1.tup⟩
  · cases h

theorem JF.of {X : X} (hT : TOk X.P X.T) {f : FuncId} {i : FnI} (hf : FnOk X f i) {args : List PV} (hn : args.length ≤ i.N) {st : Sto} {nx : Nat} {e : Ex} {s' : S} (he : e = .nrm ∨ e = .ret)
    (h : ∀ c, cCode X.T c = some i.cc → JC X i.N c ⟨enterF 0 args, st, nx⟩ e s') {p : PV} (hp : resP X.T s' i.res = some p) : JF X f args st nx p s'.st s'.nx := by
  intro B L w0 I0 bs I w vals hR hA
  obtain ⟨fn, c, h1, h2, h3, h4, h5, _⟩ := hf
  refine calls_of_wp h1 h2 ?_
  have hl := hA.length
  refine h c h3 B L w0 I0 bs I _ w _ hR ⟨?_, rfl, fun t => ?_⟩ ?_
  · simp [h4]; omega
  · have := enterF_ok 0 hA t (List.replicate (fn.ntmps - vals.length) undef) (Nat.zero_le _)
    have e : ((⟨vals⟩ : Array Value) ++ Array.replicate (fn.ntmps - vals.length) undef) = ⟨vals ++ List.replicate (fn.ntmps - vals.length) undef⟩ := by apply Array.ext'; simp
    show PVal bs I (getF (enterF 0 args) t) (((⟨vals⟩ : Array Value) ++ Array.replicate (fn.ntmps - vals.length) undef).getD t undef)
    rw [e]
    simpa using this
  · intro a' w' bs' I' hb hI hR' hF'
    obtain ⟨v, hres, hpv⟩ := results_ok hT hR' hF' h5 hp
    rcases he with rfl | rfl
    · exact ⟨hF'.defers, _, hres, _, bs', I', rfl, hb, hI, hR', hpv⟩
    · exact ⟨hF'.defers, _, hres, _, bs', I', rfl, hb, hI, hR', hpv⟩
end Go.Eng
end

section
namespace Go.Eng
open Go Go.RowKit

/-! ### Hints of its own -/
def fzP (st : Sto) : Nat → PV → List Nat
  | 0, _ => []
  | k + 1, p => match p with
    | .ownF _ id => match getO st id with
      | some (.row _ _ _ 2) => []
      | some _ => [id]
      | none => []
    | .own _ id _ _ => match getO st id with
      | some (.row _ _ _ 2) => []
      | some _ => [id]
      | none => []
    | .ref id [] => match getO st id with
      | some (.box fz _ t) => bif fz then fzP st k t else id :: fzP st k t
      | _ => []
    | .st fs => fs.foldr (fun f l => fzP st k f.2 ++ l) []
    | .ifc _ q => fzP st k q
    | .fn _ caps => caps.foldr (fun q l => fzP st k q ++ l) []
    | _ => []

def hIv : Option IV → Hint
  | some x => .iv x
  | none => .no

def intOf : IV → Int
  | .v (.int _ n) => n
  | _ => 0

def autoSto (st : Sto) (xs : List IV) (i : Nat) (x : PV) : Hint :=
  match toIV st 8 x with
  | some y => .ivs (setL xs i y)
  | none => match fzP st 8 x with
    | ids => match toIV (frzO st ids) 8 x with
      | some y => .fz ids (.ivs (setL xs i y))
      | none => .no

def autoParts (ev : Operand → PV) (st : Sto) (ps : List (Nat × Operand)) : Hint :=
  match ps.foldr (fun q l => fzP st 8 (ev q.2) ++ l) [] with
  | [] => .no
  | ids => .fz ids .no

def autoH (T : List (Nat × TyI)) (c : COp) (ev : Operand → PV) (st : Sto) : Hint :=
  match c with
  | .ld _ _ a => match ev a with
    | .ref id path => match getO st id with
      | some (.box _ n t) => match lastE path with
        | some (pre, i, _) => match getP n t pre with
          | some (_, .im (.arr _ xs)) => hIv (nth xs i)
          | _ => .no
        | none => .no
      | _ => .no
    | .rel _ id i => match getO st id with
      | some (.row _ _ xs _) => hIv (nth xs i)
      | _ => .no
    | _ => .no
  | .sto _ a x => match ev a with
    | .ref id path => match getO st id with
      | some (.box _ n t) => match lastE path with
        | some (pre, i, _) => match getP n t pre with
          | some (_, .im (.arr _ xs)) => autoSto st xs i (ev x)
          | _ => .no
        | none => .no
      | _ => .no
    | .rel _ id i => match getO st id with
      | some (.row _ _ xs _) => autoSto st xs i (ev x)
      | _ => .no
    | _ => .no
  | .barr _ _ ps => autoParts ev st ps
  | .bsl _ _ _ _ ps => autoParts ev st ps
  | .idxA _ _ a i => match ev a, ev i with
    | .im (.pim _ (.arr _ xs)), .im (.v (.int _ n)) => hIv (nth xs n.toNat)
    | _, _ => .no
  | .idxS _ x i => match ev x, ev i with
    | .im (.sl _ xs), .im (.v (.int _ n)) => hIv (nth xs n.toNat)
    | _, _ => .no
  | .slc _ x lo hi => match ev x with
    | .im (.sl _ xs) => match cutB (optP ev lo) (optP ev hi) xs.length with
      | some (l, r) => .ivs ((xs.drop l.toNat).take (r.toNat - l.toNat))
      | none => .no
    | _ => .no
  | .ieq neg x y => match ev x, ev y with
    | .im a, .im b => match ieqQ T a b with
      | some r => .bool (match neg with | true => !r | false => r)
      | none => .no
    | _, _ => .no
  | .len x => match ev x with
    | .im (.sl _ xs) => .int xs.length
    | .ownF _ id => match getO st id with
      | some (.row _ _ xs _) => .int xs.length
      | _ => .no
    | .own _ _ _ n => .int n
    | _ => .no
  | .app _ sz _ x y => match elemsOf st sz (ev y) with
    | some ys => match ev x with
      | .ownF _ id => match getO st id with
        | some (.row _ _ xs _) => .ivs (xs ++ ys)
        | _ => .no
      | _ => .ivs ys
    | none => .no
  | .cvStr x => match elemsOf st 1 (ev x) with
    | some ys => .ints (ys.map intOf)
    | none => .no
  | .cvByt _ x => match ev x with
    | .im (.v (.string s)) => .ints (s.data.toList.map fun b => (b.toNat : Int))
    | _ => .no
  | .pick c _ _ => match ev c with
    | .im (.v (.bool true)) => .gt .no
    | .im (.v (.bool false)) => .gf
    | _ => .no
  | _ => .no

def autoG (fr : Fr) (g : Option (Option Nat × Bool)) (h : Hint) : Hint :=
  match g with
  | some (some t, b) => match getF fr t with
    | .im (.v (.bool c)) => bif c == b then .gt h else .gf
    | _ => h
  | _ => h

def allC : List Ob → Bool
  | [] => true
  | o :: l => o.c && allC l
theorem allC_ok : ∀ {l : List Ob}, allC l = true → ∀ q ∈ l.map Ob.P, q
  | [], _, q, hq => by simp at hq
  | o :: l, h, q, hq => by
    simp only [allC, Bool.and_eq_true] at h
    simp only [List.map_cons, List.mem_cons] at hq
    rcases hq with rfl | hq
    · exact o.ok h.1
    · exact allC_ok h.2 q hq

/-! ### The runner -/
inductive Task where
  | ops (N : Nat) (l : List CI) (s : S)
  | code (N : Nat) (c : CC) (s : S)
  | fn (f : FuncId) (args : List PV) (st : Sto) (nx : Nat)
inductive Out2 where
  | s (e : Ex) (s : S)
  | v (p : PV) (st : Sto) (nx : Nat)

def getFn : List (Nat × FnI) → Nat → Option FnI
  | [], _ => none
  | (k, i) :: l, f => bif Nat.beq k f then some i else getFn l f

def callee (ev : Operand → PV) : COp → Option (PV × List Operand)
  | .call f args => some (.fn f [], args)
  | .callV x args => some (ev x, args)
  | _ => none

theorem JC.again' {X : X} {N : Nat} {c : Code} {s s1 s2 : S} {e : Ex} (h : JC X N c s .nrm s1) (k : JL X N c s1 e s2) : JL X N c s e s2 := .again h k

/-! ### What code compiles to what -/
section
variable {T : List (Nat × TyI)} {c : Code}
theorem cCode_reg {l : List CI} (h : cCode T c = some (.reg l)) : ∃ id ops, c = .region id ops false ∧ cOps T ops ops.toList = l := by
  unfold cCode at h
  split at h
  · simp only [Option.some.injEq, CC.reg.injEq] at h; exact ⟨_, _, rfl, h⟩
  all_goals (first | (simp at h; done) | (split at h <;> simp at h))
theorem cCode_drw {l : List CI} {eds : List (List Nat)} (h : cCode T c = some (.drw l eds)) : ∃ id ops, c = .region id ops true ∧ cOps T ops ops.toList = l ∧ ops.toList.map edgesOf = eds := by
  unfold cCode at h
  split at h
  · simp at h
  · simp only [Option.some.injEq, CC.drw.injEq] at h; exact ⟨_, _, rfl, h⟩
  all_goals (first | (simp at h; done) | (split at h <;> simp at h))
theorem cCode_seq {a b : CC} (h : cCode T c = some (.seq a b)) : ∃ x y, c = .seq x y ∧ cCode T x = some a ∧ cCode T y = some b := by
  unfold cCode at h
  split at h
  case h_3 x y =>
    split at h
    · rename_i h1 h2; simp only [Option.some.injEq, CC.seq.injEq] at h; obtain ⟨rfl, rfl⟩ := h; exact ⟨x, y, rfl, h1, h2⟩
    · cases h
  all_goals (first | (simp at h; done) | (split at h <;> simp at h))
theorem cCode_cond {x : Operand} {a b : CC} (h : cCode T c = some (.cond x a b)) : ∃ y z, c = .cond x y z ∧ cCode T y = some a ∧ cCode T z = some b := by
  unfold cCode at h
  split at h
  case h_4 x' y z =>
    split at h
    · rename_i h1 h2; simp only [Option.some.injEq, CC.cond.injEq] at h; obtain ⟨rfl, rfl, rfl⟩ := h; exact ⟨y, z, rfl, h1, h2⟩
    · cases h
  all_goals (first | (simp at h; done) | (split at h <;> simp at h))
theorem cCode_blk {id : Nat} {a : CC} (h : cCode T c = some (.blk id a)) : ∃ x, c = .block id x ∧ cCode T x = some a := by
  unfold cCode at h
  split at h
  case h_5 id' x =>
    split at h
    · rename_i h1; simp only [Option.some.injEq, CC.blk.injEq] at h; obtain ⟨rfl, rfl⟩ := h; exact ⟨x, rfl, h1⟩
    · cases h
  all_goals (first | (simp at h; done) | (split at h <;> simp at h))
theorem cCode_loop {a : CC} (h : cCode T c = some (.loop a)) : ∃ x, c = .loop x ∧ cCode T x = some a := by
  unfold cCode at h
  split at h
  case h_6 x =>
    split at h
    · rename_i h1; simp only [Option.some.injEq, CC.loop.injEq] at h; subst h; exact ⟨x, rfl, h1⟩
    · cases h
  all_goals (first | (simp at h; done) | (split at h <;> simp at h))
theorem cCode_exit {id : Nat} (h : cCode T c = some (.exit id)) : c = .exit id := by
  unfold cCode at h
  split at h
  case h_7 id' => simp only [Option.some.injEq, CC.exit.injEq] at h; subst h; rfl
  all_goals (first | (simp at h; done) | (split at h <;> simp at h))
theorem cCode_ret (h : cCode T c = some .ret) : c = .ret := by
  unfold cCode at h
  split at h
  case h_8 => rfl
  all_goals (first | (simp at h; done) | (split at h <;> simp at h))
theorem cCode_skip (h : cCode T c = some .skip) : c = .skip := by
  unfold cCode at h
  split at h
  case h_9 => rfl
  all_goals (first | (simp at h; done) | (split at h <;> simp at h))
end

theorem callee_ok {X : X} {ev : Operand → PV} {o : Oper} {f : PV} {args : List Operand} (h : callee ev (cOp X.T o) = some (f, args)) (hfn : ∀ g, ev (.func g) = .fn g []) :
    ∃ c x, o.op = .call c ∧ c.callee = .value x ∧ ev x = f ∧ c.args.toList = args := by
  cases hop : o.op with
  | call c =>
    simp only [cOp, hop] at h
    refine ⟨c, ?_⟩
    unfold cCall at h
    split at h
    · rename_i g hc
      simp only [callee, Option.some.injEq, Prod.mk.injEq] at h
      exact ⟨.func g, rfl, hc, by rw [hfn]; exact h.1, h.2⟩
    · rename_i x hn hc
      simp only [callee, Option.some.injEq, Prod.mk.injEq] at h
      exact ⟨x, rfl, hc, h.1, h.2⟩
    · exfalso
      split at h
      · split at h <;> simp [callee] at h
      · simp [callee] at h
    · exfalso
      simp only [cond_eq_ite] at h
      split at h
      · split at h
        · split at h
          · split at h
            · split at h <;> simp [callee] at h
            · simp [callee] at h
          · simp [callee] at h
        · simp [callee] at h
      · simp [callee] at h
    · exfalso
      split at h <;> simp [callee] at h
    · simp [callee] at h
  | _ => exfalso; simp only [cOp, hop, cond_eq_ite] at h; ((repeat' split at h) <;> first | (simp [callee] at h; done) | (rename_i q; cases q))

end Go.Eng
end
