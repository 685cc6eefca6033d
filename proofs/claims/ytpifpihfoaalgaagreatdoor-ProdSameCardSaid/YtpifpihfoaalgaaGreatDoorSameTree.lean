/- Proved here: calls with open arguments, told as trees of questions, answer as the clean machine does. Conditions: as for the clean machine. -/
import Derived.Test.YtpifpihfoaalgaaGreatDoorSameRun
import Derived.Test.YtpifpihfoaalgaaGreatDoorSameKern
set_option linter.unusedVariables false
set_option linter.unusedSimpArgs false
namespace Go.Dp.Tr
open Go Go.Dp
inductive Tree where
  | fail (n : Nat)
  | ret (v : Value) (A : AS)
  | node (b : Bool) (y n : Tree)
  | ask (cs : List Value) (o n : Nat) (c : List Value → Tree)
  | opt (r : Option (ANext × AS)) (c : ANext × AS → Tree)
  | obj (r : Option AObj) (c : AObj → Tree)
def Tree.eval : Tree → Option (Value × AS)
  | .fail _ => none
  | .ret v A => some (v, A)
  | .node b y n => match b with
    | true => y.eval
    | false => n.eval
  | .ask cs o n c => match piece cs o n with
    | some l => (c l).eval
    | none => none
  | .opt r c => match r with
    | some x => (c x).eval
    | none => none
  | .obj r c => match r with
    | some x => (c x).eval
    | none => none
abbrev Ans := Tree
def failAt (n : Nat) : Ans := .fail n
theorem failAt_ne {R : Value × AS} (h : (none : Option (Value × AS)) = some R) : False := by cases h
noncomputable def qBool (x : Value) (c : Bool → Ans) : Ans :=
  @Value.rec (fun _ => (Bool → Ans) → Ans) (fun _ => Unit) (fun _ => Unit)
    (fun b c => c b) (fun _ _ _ => failAt 1) (fun _ _ _ => failAt 1) (fun _ _ _ _ => failAt 1) (fun _ _ => failAt 1) (fun _ _ => failAt 1) (fun _ _ _ _ => failAt 1) (fun _ _ => failAt 1) (fun _ _ => failAt 1) (fun _ _ _ _ _ _ => failAt 1) (fun  _ => failAt 1) (fun _ _ _ _ => failAt 1) (fun  _ => failAt 1) (fun _ _ _ => failAt 1) (fun _ _ _ => failAt 1)
    (fun _ _ => ()) () (fun _ _ _ _ => ()) x c
theorem qBool_ok {x : Value} {c : Bool → Ans} {R : Value × AS} (h : Tree.eval (qBool x c) = some R) : ∃ b, x = .bool b ∧ Tree.eval (c b) = some R := by
  cases x <;> first | exact ⟨_, rfl, h⟩ | exact (failAt_ne h).elim
noncomputable def qInt (x : Value) (c : IntKind → Int → Ans) : Ans :=
  @Value.rec (fun _ => (IntKind → Int → Ans) → Ans) (fun _ => Unit) (fun _ => Unit)
    (fun _ _ => failAt 2) (fun k n c => c k n) (fun _ _ _ => failAt 2) (fun _ _ _ _ => failAt 2) (fun _ _ => failAt 2) (fun _ _ => failAt 2) (fun _ _ _ _ => failAt 2) (fun _ _ => failAt 2) (fun _ _ => failAt 2) (fun _ _ _ _ _ _ => failAt 2) (fun  _ => failAt 2) (fun _ _ _ _ => failAt 2) (fun  _ => failAt 2) (fun _ _ _ => failAt 2) (fun _ _ _ => failAt 2)
    (fun _ _ => ()) () (fun _ _ _ _ => ()) x c
theorem qInt_ok {x : Value} {c : IntKind → Int → Ans} {R : Value × AS} (h : Tree.eval (qInt x c) = some R) : ∃ k n, x = .int k n ∧ Tree.eval (c k n) = some R := by
  cases x <;> first | exact ⟨_, _, rfl, h⟩ | exact (failAt_ne h).elim
noncomputable def qI64 (x : Value) (c : Int → Ans) : Ans :=
  @Value.rec (fun _ => (Int → Ans) → Ans) (fun _ => Unit) (fun _ => Unit)
    (fun _ _ => failAt 3) (fun k n c => @IntKind.rec (fun _ => Int → (Int → Ans) → Ans) (fun _ _ => failAt 10) (fun _ _ => failAt 10) (fun _ _ => failAt 10) (fun n c => c n) (fun _ _ => failAt 10) (fun _ _ => failAt 10) (fun _ _ => failAt 10) (fun _ _ => failAt 10) k n c) (fun _ _ _ => failAt 3) (fun _ _ _ _ => failAt 3) (fun _ _ => failAt 3) (fun _ _ => failAt 3) (fun _ _ _ _ => failAt 3) (fun _ _ => failAt 3) (fun _ _ => failAt 3) (fun _ _ _ _ _ _ => failAt 3) (fun  _ => failAt 3) (fun _ _ _ _ => failAt 3) (fun  _ => failAt 3) (fun _ _ _ => failAt 3) (fun _ _ _ => failAt 3)
    (fun _ _ => ()) () (fun _ _ _ _ => ()) x c
theorem qI64_ok {x : Value} {c : Int → Ans} {R : Value × AS} (h : Tree.eval (qI64 x c) = some R) : ∃ n, x = .int .i64 n ∧ Tree.eval (c n) = some R := by
  cases x <;> first
    | (rename_i k n; cases k <;> first | exact ⟨_, rfl, h⟩ | exact (failAt_ne h).elim)
    | exact (failAt_ne h).elim
noncomputable def qStr (x : Value) (c : ByteArray → Ans) : Ans :=
  @Value.rec (fun _ => (ByteArray → Ans) → Ans) (fun _ => Unit) (fun _ => Unit)
    (fun _ _ => failAt 4) (fun _ _ _ => failAt 4) (fun _ _ _ => failAt 4) (fun _ _ _ _ => failAt 4) (fun s c => c s) (fun _ _ => failAt 4) (fun _ _ _ _ => failAt 4) (fun _ _ => failAt 4) (fun _ _ => failAt 4) (fun _ _ _ _ _ _ => failAt 4) (fun  _ => failAt 4) (fun _ _ _ _ => failAt 4) (fun  _ => failAt 4) (fun _ _ _ => failAt 4) (fun _ _ _ => failAt 4)
    (fun _ _ => ()) () (fun _ _ _ _ => ()) x c
theorem qStr_ok {x : Value} {c : ByteArray → Ans} {R : Value × AS} (h : Tree.eval (qStr x c) = some R) : ∃ s, x = .string s ∧ Tree.eval (c s) = some R := by
  cases x <;> first | exact ⟨_, rfl, h⟩ | exact (failAt_ne h).elim
noncomputable def qOAddr (a : Option Addr) (c : Nat → Nat → Ans) : Ans :=
  Option.rec (motive := fun _ => (Nat → Nat → Ans) → Ans) (fun _ => failAt 90) (fun ad c => Addr.rec (motive := fun _ => (Nat → Nat → Ans) → Ans)
    (fun B o sp c => Option.rec (motive := fun _ => (Nat → Nat → Ans) → Nat → Nat → Ans) (fun c B o => c B o) (fun _ _ _ _ => failAt 91) sp c B o) ad c) a c
theorem qOAddr_ok {a : Option Addr} {c : Nat → Nat → Ans} {R : Value × AS} (h : Tree.eval (qOAddr a c) = some R) : ∃ B o, a = some ⟨B, o, none⟩ ∧ Tree.eval (c B o) = some R := by
  cases a with
  | none => exact (failAt_ne h).elim
  | some ad =>
    obtain ⟨B, o, sp⟩ := ad
    cases sp with
    | none => exact ⟨B, o, rfl, h⟩
    | some _ => exact (failAt_ne h).elim
noncomputable def qPtr (x : Value) (c : Nat → Nat → Ans) : Ans :=
  @Value.rec (fun _ => (Nat → Nat → Ans) → Ans) (fun _ => Unit) (fun _ => Unit)
    (fun _ _ => failAt 5) (fun _ _ _ => failAt 5) (fun _ _ _ => failAt 5) (fun _ _ _ _ => failAt 5) (fun _ _ => failAt 5) (fun a c => qOAddr a c) (fun _ _ _ _ => failAt 5) (fun _ _ => failAt 5) (fun _ _ => failAt 5) (fun _ _ _ _ _ _ => failAt 5) (fun  _ => failAt 5) (fun _ _ _ _ => failAt 5) (fun  _ => failAt 5) (fun _ _ _ => failAt 5) (fun _ _ _ => failAt 5)
    (fun _ _ => ()) () (fun _ _ _ _ => ()) x c
theorem qPtr_ok {x : Value} {c : Nat → Nat → Ans} {R : Value × AS} (h : Tree.eval (qPtr x c) = some R) : ∃ B o, x = .pointer (some ⟨B, o, none⟩) ∧ Tree.eval (c B o) = some R := by
  cases x <;> first
    | (obtain ⟨B, o, rfl, h'⟩ := qOAddr_ok h; exact ⟨B, o, rfl, h'⟩)
    | exact (failAt_ne h).elim
noncomputable def qSlc (x : Value) (c : Nat → Nat → Nat → Nat → Ans) : Ans :=
  @Value.rec (fun _ => (Nat → Nat → Nat → Nat → Ans) → Ans) (fun _ => Unit) (fun _ => Unit)
    (fun _ _ => failAt 6) (fun _ _ _ => failAt 6) (fun _ _ _ => failAt 6) (fun _ _ _ _ => failAt 6) (fun _ _ => failAt 6) (fun _ _ => failAt 6) (fun a l p c => qOAddr a (fun B o => c B o l p)) (fun _ _ => failAt 6) (fun _ _ => failAt 6) (fun _ _ _ _ _ _ => failAt 6) (fun  _ => failAt 6) (fun _ _ _ _ => failAt 6) (fun  _ => failAt 6) (fun _ _ _ => failAt 6) (fun _ _ _ => failAt 6)
    (fun _ _ => ()) () (fun _ _ _ _ => ()) x c
theorem qSlc_ok {x : Value} {c : Nat → Nat → Nat → Nat → Ans} {R : Value × AS} (h : Tree.eval (qSlc x c) = some R) : ∃ B o l p, x = .slice (some ⟨B, o, none⟩) l p ∧ Tree.eval (c B o l p) = some R := by
  cases x <;> first
    | (obtain ⟨B, o, rfl, h'⟩ := qOAddr_ok h; exact ⟨B, o, _, _, rfl, h'⟩)
    | exact (failAt_ne h).elim
noncomputable def qSlLen (x : Value) (c : Nat → Ans) : Ans :=
  @Value.rec (fun _ => (Nat → Ans) → Ans) (fun _ => Unit) (fun _ => Unit)
    (fun _ _ => failAt 7) (fun _ _ _ => failAt 7) (fun _ _ _ => failAt 7) (fun _ _ _ _ => failAt 7) (fun _ _ => failAt 7) (fun _ _ => failAt 7) (fun a l p c => c l) (fun _ _ => failAt 7) (fun _ _ => failAt 7) (fun _ _ _ _ _ _ => failAt 7) (fun  _ => failAt 7) (fun _ _ _ _ => failAt 7) (fun  _ => failAt 7) (fun _ _ _ => failAt 7) (fun _ _ _ => failAt 7)
    (fun _ _ => ()) () (fun _ _ _ _ => ()) x c
theorem qSlLen_ok {x : Value} {c : Nat → Ans} {R : Value × AS} (h : Tree.eval (qSlLen x c) = some R) : ∃ a l p, x = .slice a l p ∧ Tree.eval (c l) = some R := by
  cases x <;> first | exact ⟨_, _, _, rfl, h⟩ | exact (failAt_ne h).elim
noncomputable def qTup (x : Value) (c : List Value → Ans) : Ans :=
  @Value.rec (fun _ => (List Value → Ans) → Ans) (fun _ => Unit) (fun _ => Unit)
    (fun _ _ => failAt 8) (fun _ _ _ => failAt 8) (fun _ _ _ => failAt 8) (fun _ _ _ _ => failAt 8) (fun _ _ => failAt 8) (fun _ _ => failAt 8) (fun _ _ _ _ => failAt 8) (fun _ _ => failAt 8) (fun _ _ => failAt 8) (fun _ _ _ _ _ _ => failAt 8) (fun  _ => failAt 8) (fun _ _ _ _ => failAt 8) (fun  _ => failAt 8) (fun _ _ _ => failAt 8) (fun vs _ c => c vs.toList)
    (fun _ _ => ()) () (fun _ _ _ _ => ()) x c
theorem qTup_ok {x : Value} {c : List Value → Ans} {R : Value × AS} (h : Tree.eval (qTup x c) = some R) : ∃ vs, x = .tuple vs ∧ Tree.eval (c vs.toList) = some R := by
  cases x <;> first | exact ⟨_, rfl, h⟩ | exact (failAt_ne h).elim
noncomputable def qNil (x : Value) (c : Value → Ans) : Ans :=
  @Value.rec (fun _ => (Value → Ans) → Ans) (fun _ => Unit) (fun _ => Unit)
    (fun _ _ => failAt 9) (fun _ _ _ => failAt 9) (fun _ _ _ => failAt 9) (fun _ _ _ _ => failAt 9) (fun _ _ => failAt 9) (fun a c => Option.rec (motive := fun _ => (Value → Ans) → Ans) (fun _ => failAt 92) (fun ad c => c (.pointer (some ad))) a c) (fun _ _ _ _ => failAt 9) (fun _ _ => failAt 9) (fun _ _ => failAt 9) (fun _ _ _ _ _ _ => failAt 9) (fun  _ => failAt 9) (fun _ _ _ _ => failAt 9) (fun  _ => failAt 9) (fun _ _ _ => failAt 9) (fun _ _ _ => failAt 9)
    (fun _ _ => ()) () (fun _ _ _ _ => ()) x c
theorem qNil_ok {x : Value} {c : Value → Ans} {R : Value × AS} (h : Tree.eval (qNil x c) = some R) : ∃ a, x = .pointer (some a) ∧ Tree.eval (c (.pointer (some a))) = some R := by
  cases x <;> first
    | (rename_i a; cases a with
       | none => exact (failAt_ne h).elim
       | some a => exact ⟨a, rfl, h⟩)
    | exact (failAt_ne h).elim
noncomputable def qOne (x : Value) (c : Unit → Ans) : Ans :=
  @Value.rec (fun _ => (Unit → Ans) → Ans) (fun _ => Unit) (fun _ => Unit)
    (fun _ c => c ()) (fun _ _ c => c ()) (fun _ _ c => c ()) (fun _ _ _ c => c ()) (fun _ c => c ()) (fun _ c => c ()) (fun _ _ _ c => c ()) (fun _ c => c ()) (fun _ c => c ()) (fun _ _ _ _ _ c => c ()) (fun  c => c ()) (fun _ _ _ c => c ()) (fun  c => c ()) (fun _ _ _ => failAt 93) (fun _ _ _ => failAt 93)
    (fun _ _ => ()) () (fun _ _ _ _ => ()) x c
theorem qOne_ok {x : Value} {c : Unit → Ans} {R : Value × AS} (h : Tree.eval (qOne x c) = some R) : oneV x = true ∧ Tree.eval (c ()) = some R := by
  cases x <;> first | exact ⟨rfl, h⟩ | exact (failAt_ne h).elim
noncomputable def qForce (x : Value) (c : Value → Ans) : Ans :=
  @Value.rec (fun _ => (Value → Ans) → Ans) (fun _ => Unit) (fun _ => Unit)
    (fun b c => c (.bool b)) (fun k n c => c (.int k n)) (fun k n c => c (.float k n)) (fun k r i c => c (.complex k r i)) (fun s c => c (.string s)) (fun a c => c (.pointer a)) (fun a l p c => c (.slice a l p)) (fun r c => c (.map r)) (fun r c => c (.chan r)) (fun fn x u _ _ c => c (.func fn x u)) (fun  c => c (.nilFunc)) (fun t v _ c => c (.iface t v)) (fun  c => c (.nilIface)) (fun vs _ c => c (.agg vs)) (fun vs _ c => c (.tuple vs))
    (fun _ _ => ()) () (fun _ _ _ _ => ()) x c
theorem qForce_ok {x : Value} {c : Value → Ans} {R : Value × AS} (h : Tree.eval (qForce x c) = some R) : Tree.eval (c x) = some R := by
  cases x <;> exact h
noncomputable def qOneV (x : Value) (c : Value → Ans) : Ans :=
  @Value.rec (fun _ => (Value → Ans) → Ans) (fun _ => Unit) (fun _ => Unit)
    (fun b c => c (.bool b)) (fun k n c => c (.int k n)) (fun k n c => c (.float k n)) (fun k r i c => c (.complex k r i)) (fun s c => c (.string s)) (fun a c => c (.pointer a)) (fun a l p c => c (.slice a l p)) (fun r c => c (.map r)) (fun r c => c (.chan r)) (fun fn x u _ _ c => c (.func fn x u)) (fun  c => c (.nilFunc)) (fun t v _ c => c (.iface t v)) (fun  c => c (.nilIface)) (fun _ _ _ => failAt 93) (fun _ _ _ => failAt 93)
    (fun _ _ => ()) () (fun _ _ _ _ => ()) x c
theorem qOneV_ok {x : Value} {c : Value → Ans} {R : Value × AS} (h : Tree.eval (qOneV x c) = some R) : oneV x = true ∧ Tree.eval (c x) = some R := by
  cases x <;> first | exact ⟨rfl, h⟩ | exact (failAt_ne h).elim
noncomputable def qCellsV (x : Value) (c : List Value → Ans) : Ans :=
  @Value.rec (fun _ => (List Value → Ans) → Ans) (fun _ => Unit) (fun _ => Unit)
    (fun b c => c [.bool b]) (fun k n c => c [.int k n]) (fun k n c => c [.float k n]) (fun k r i c => c [.complex k r i]) (fun s c => c [.string s]) (fun a c => c [.pointer a]) (fun a l p c => c [.slice a l p]) (fun r c => c [.map r]) (fun r c => c [.chan r]) (fun fn x u _ _ c => c [.func fn x u]) (fun  c => c [.nilFunc]) (fun t v _ c => c [.iface t v]) (fun  c => c [.nilIface]) (fun vs _ c => c vs.toList) (fun vs _ c => c [.tuple vs])
    (fun _ _ => ()) () (fun _ _ _ _ => ()) x c
theorem qCellsV_ok {x : Value} {c : List Value → Ans} {R : Value × AS} (h : Tree.eval (qCellsV x c) = some R) : Tree.eval (c x.cells.toList) = some R := by
  cases x <;> exact h
noncomputable def qNat (n : Int) (c : Nat → Ans) : Ans := Int.rec (motive := fun _ => (Nat → Ans) → Ans) (fun n c => c n) (fun _ _ => failAt 94) n c
theorem qNat_ok {n : Int} {c : Nat → Ans} {R : Value × AS} (h : Tree.eval (qNat n c) = some R) : ∃ m : Nat, n = Int.ofNat m ∧ Tree.eval (c m) = some R := by
  cases n with
  | ofNat m => exact ⟨m, rfl, h⟩
  | negSucc m => exact (failAt_ne h).elim
noncomputable def qIf (b : Bool) (x y : Ans) : Ans := .node b x y
noncomputable def qSel (b : Bool) (x y : Ans) : Ans := .node b x y
theorem qSel_ok {b : Bool} {x y : Ans} {R : Value × AS} (h : Tree.eval (qSel b x y) = some R) : (b = true ∧ Tree.eval (x) = some R) ∨ (b = false ∧ Tree.eval (y) = some R) := by
  cases b with
  | true => exact .inl ⟨rfl, h⟩
  | false => exact .inr ⟨rfl, h⟩
theorem qIf_ok {b : Bool} {x : Ans} {n : Nat} {R : Value × AS} (h : Tree.eval (qIf b x (failAt n)) = some R) : b = true ∧ Tree.eval (x) = some R := by
  cases b with
  | true => exact ⟨rfl, h⟩
  | false => exact (failAt_ne h).elim
noncomputable def kEq (j k : IntKind) : Bool := Nat.beq (kNum j) (kNum k)
 where kNum (k : IntKind) : Nat := IntKind.rec (motive := fun _ => Nat) 0 1 2 3 4 5 6 7 k
theorem kEq_ok {j k : IntKind} (h : kEq j k = true) : j = k := by
  cases j <;> cases k <;> first | rfl | (simp [kEq, kEq.kNum] at h)
noncomputable def qNth (i : Nat) (cs : List Value) (c : Value → Ans) : Ans :=
  Nat.rec (motive := fun _ => List Value → (Value → Ans) → Ans)
    (fun cs c => List.rec (motive := fun _ => (Value → Ans) → Ans) (fun _ => failAt 95) (fun x _ _ c => c x) cs c)
    (fun _ ih cs c => List.rec (motive := fun _ => (List Value → (Value → Ans) → Ans) → (Value → Ans) → Ans) (fun _ _ => failAt 96) (fun _ xs _ ih c => ih xs c) cs ih c) i cs c
theorem qNth_ok {c : Value → Ans} {R : Value × AS} : ∀ {i : Nat} {cs : List Value}, Tree.eval (qNth i cs c) = some R → ∃ v, cs[i]? = some v ∧ Tree.eval (c v) = some R
  | 0, [], h => (failAt_ne h).elim
  | 0, x :: _, h => ⟨x, rfl, h⟩
  | i + 1, [], h => (failAt_ne h).elim
  | i + 1, _ :: xs, h => by
    have : Tree.eval (qNth i xs c) = some R := h
    obtain ⟨v, h1, h2⟩ := qNth_ok this
    exact ⟨v, by simpa using h1, h2⟩
noncomputable def nthO {α : Type} (cs : List α) (i : Nat) : Option α :=
  Nat.rec (motive := fun _ => List α → Option α)
    (fun cs => List.rec (motive := fun _ => Option α) none (fun x _ _ => some x) cs)
    (fun _ ih cs => List.rec (motive := fun _ => (List α → Option α) → Option α) (fun _ => none) (fun _ xs _ ih => ih xs) cs ih) i cs
theorem nthO_eq {α : Type} : ∀ (i : Nat) (cs : List α), nthO cs i = cs[i]?
  | 0, [] => rfl
  | 0, x :: _ => rfl
  | i + 1, [] => rfl
  | i + 1, _ :: xs => by
    show nthO xs i = _
    rw [nthO_eq i xs]; rfl
noncomputable def lset (i : Nat) (v : Value) (cs : List Value) : List Value :=
  Nat.rec (motive := fun _ => List Value → Value → List Value)
    (fun cs v => List.rec (motive := fun _ => Value → List Value) (fun _ => []) (fun _ xs _ v => v :: xs) cs v)
    (fun _ ih cs v => List.rec (motive := fun _ => (List Value → Value → List Value) → Value → List Value) (fun _ _ => []) (fun x xs _ ih v => x :: ih xs v) cs ih v) i cs v
theorem lset_ok {v : Value} : ∀ {i : Nat} {cs : List Value} {u : Value}, cs[i]? = some u → setNth cs i v = some (lset i v cs)
  | 0, [], _, h => by simp at h
  | 0, _ :: _, _, _ => rfl
  | i + 1, [], _, h => by simp at h
  | i + 1, x :: xs, u, h => by
    have h' : xs[i]? = some u := by simpa using h
    have e : lset (i + 1) v (x :: xs) = x :: lset i v xs := rfl
    rw [setNth, lset_ok h', e]
end Go.Dp.Tr
namespace Go.Dp.Tr
open Go Go.Dp
variable {R : Value × AS}
noncomputable def qiLt (a b : Int) : Bool :=
  Int.rec (motive := fun _ => Int → Bool)
    (fun m b => Int.rec (motive := fun _ => Nat → Bool) (fun n m => Nat.ble (Nat.succ m) n) (fun _ _ => false) b m)
    (fun m b => Int.rec (motive := fun _ => Nat → Bool) (fun _ _ => true) (fun n m => Nat.ble (Nat.succ n) m) b m) a b
theorem qiLt_eq (a b : Int) : qiLt a b = iLt a b := by cases a <;> cases b <;> rfl
noncomputable def qiEq (a b : Int) : Bool :=
  Int.rec (motive := fun _ => Int → Bool)
    (fun m b => Int.rec (motive := fun _ => Nat → Bool) (fun n m => Nat.beq m n) (fun _ _ => false) b m)
    (fun m b => Int.rec (motive := fun _ => Nat → Bool) (fun _ _ => false) (fun n m => Nat.beq m n) b m) a b
theorem qiEq_eq (a b : Int) : qiEq a b = iEq a b := by cases a <;> cases b <;> rfl
noncomputable def qiAdd (a b : Int) : Int :=
  Int.rec (motive := fun _ => Int → Int) (fun m b => Int.rec (motive := fun _ => Nat → Int) (fun n m => .ofNat (Nat.add m n)) (fun n m => Int.add (.ofNat m) (.negSucc n)) b m) (fun m b => Int.add (.negSucc m) b) a b
theorem qiAdd_eq (a b : Int) : qiAdd a b = a + b := by cases a <;> cases b <;> rfl
noncomputable def qiMul (a b : Int) : Int :=
  Int.rec (motive := fun _ => Int → Int) (fun m b => Int.rec (motive := fun _ => Nat → Int) (fun n m => .ofNat (Nat.mul m n)) (fun n m => Int.mul (.ofNat m) (.negSucc n)) b m) (fun m b => Int.mul (.negSucc m) b) a b
theorem qiMul_eq (a b : Int) : qiMul a b = a * b := by cases a <;> cases b <;> rfl
noncomputable def qiSub (a b : Int) : Int :=
  Int.rec (motive := fun _ => Int → Int) (fun m b => Int.rec (motive := fun _ => Nat → Int)
    (fun n m => Bool.rec (motive := fun _ => Int) (Int.sub (.ofNat m) (.ofNat n)) (.ofNat (Nat.sub m n)) (Nat.ble n m)) (fun n m => Int.sub (.ofNat m) (.negSucc n)) b m) (fun m b => Int.sub (.negSucc m) b) a b
theorem qiSub_eq (a b : Int) : qiSub a b = a - b := by
  cases a with
  | negSucc m => rfl
  | ofNat m => cases b with
    | negSucc n => rfl
    | ofNat n =>
      show Bool.rec (motive := fun _ => Int) (Int.sub (.ofNat m) (.ofNat n)) (.ofNat (Nat.sub m n)) (Nat.ble n m) = _
      cases h : Nat.ble n m with
      | false => rfl
      | true =>
        have : n ≤ m := Nat.le_of_ble_eq_true h
        show Int.ofNat (m - n) = Int.ofNat m - Int.ofNat n
        simp only [Int.ofNat_eq_natCast]
        omega
noncomputable def kMax (k : IntKind) : Nat := IntKind.rec (motive := fun _ => Nat) 127 32767 2147483647 9223372036854775807 255 65535 4294967295 18446744073709551615 k
noncomputable def qWrap (k : IntKind) (n : Int) : Int :=
  Int.rec (motive := fun _ => IntKind → Int) (fun m k => Bool.rec (motive := fun _ => Int) (IntKind.wrap k (.ofNat m)) (.ofNat m) (Nat.ble m (kMax k))) (fun m k => IntKind.wrap k (.negSucc m)) n k
theorem qWrap_eq (k : IntKind) (n : Int) : qWrap k n = k.wrap n := by
  cases n with
  | negSucc m => rfl
  | ofNat m =>
    show Bool.rec (motive := fun _ => Int) (IntKind.wrap k (.ofNat m)) (.ofNat m) (Nat.ble m (kMax k)) = _
    cases h : Nat.ble m (kMax k) with
    | false => rfl
    | true =>
      have hm : m ≤ kMax k := Nat.le_of_ble_eq_true h
      show (Int.ofNat m) = _
      simp only [Int.ofNat_eq_natCast]
      cases k <;> simp only [kMax] at hm <;> simp only [IntKind.wrap, IntKind.bits, IntKind.signed, Bool.true_and, Bool.false_and, decide_eq_true_eq, Nat.reduceSub, Int.reducePow, Bool.false_eq_true, if_false] <;>
        first | omega | (split <;> rename_i hc <;> simp at hc <;> omega)
inductive ArOp where | add | sub | mul
inductive CmOp where | eql | neq | lss | leq | gtr | geq
noncomputable def qArV (op : ArOp) (k : IntKind) (a b : Int) : Value :=
  ArOp.rec (motive := fun _ => IntKind → Int → Int → Value) (fun k a b => .int k (qWrap k (qiAdd a b))) (fun k a b => .int k (qWrap k (qiSub a b))) (fun k a b => .int k (qWrap k (qiMul a b))) op k a b
noncomputable def qCmV (op : CmOp) (a b : Int) : Bool :=
  CmOp.rec (motive := fun _ => Int → Int → Bool) (fun a b => qiEq a b) (fun a b => Bool.not (qiEq a b)) (fun a b => qiLt a b) (fun a b => Bool.not (qiLt b a)) (fun a b => qiLt b a) (fun a b => Bool.not (qiLt a b)) op a b
def ArOp.op : ArOp → BinOp
  | .add => .add | .sub => .sub | .mul => .mul
def CmOp.op : CmOp → BinOp
  | .eql => .eql | .neq => .neq | .lss => .lss | .leq => .leq | .gtr => .gtr | .geq => .geq
noncomputable def qAr (op : ArOp) (x y : Value) (c : Value → Ans) : Ans :=
  qInt x (fun j a => qInt y (fun k b => qIf (kEq j k) (c (qArV op j a b)) (failAt 20)))
theorem qAr_ok {op : ArOp} {x y : Value} {c : Value → Ans} (h : Tree.eval (qAr op x y c) = some R) : ∃ v, fBin op.op x y = some v ∧ Tree.eval (c v) = some R := by
  obtain ⟨j, a, rfl, h_1⟩ := qInt_ok h
  obtain ⟨k, b, rfl, h_2⟩ := qInt_ok h_1
  obtain ⟨hk, h_3⟩ := qIf_ok h_2
  have := kEq_ok hk
  subst this
  refine ⟨_, ?_, h_3⟩
  cases op <;> simp [fBin, kindEq, fInt, ArOp.op, qArV, qWrap_eq, qiAdd_eq, qiSub_eq, qiMul_eq]
noncomputable def qCm (op : CmOp) (x y : Value) (c : Value → Ans) : Ans :=
  qInt x (fun j a => qInt y (fun k b => qIf (kEq j k) (c (.bool (qCmV op a b))) (failAt 21)))
theorem qCm_ok {op : CmOp} {x y : Value} {c : Value → Ans} (h : Tree.eval (qCm op x y c) = some R) : ∃ v, fBin op.op x y = some v ∧ Tree.eval (c v) = some R := by
  obtain ⟨j, a, rfl, h_1⟩ := qInt_ok h
  obtain ⟨k, b, rfl, h_2⟩ := qInt_ok h_1
  obtain ⟨hk, h_3⟩ := qIf_ok h_2
  have := kEq_ok hk
  subst this
  refine ⟨_, ?_, h_3⟩
  cases op <;> simp [fBin, kindEq, fInt, CmOp.op, qCmV, qiLt_eq, qiEq_eq]
noncomputable def qW64 (n : Int) : Int :=
  Int.rec (motive := fun _ => Int) (fun m => Bool.rec (motive := fun _ => Int) (IntKind.wrap .i64 (.ofNat m)) (.ofNat m) (Nat.ble m 9223372036854775807)) (fun m => IntKind.wrap .i64 (.negSucc m)) n
theorem qW64_eq (n : Int) : qW64 n = IntKind.wrap .i64 n := by rw [← qWrap_eq]; cases n <;> rfl
noncomputable def qIn64 (n : Int) : Bool := Int.rec (motive := fun _ => Bool) (fun m => Nat.ble m 9223372036854775807) (fun m => Nat.ble m 9223372036854775807) n
theorem qIn64_ok {n : Int} (h : qIn64 n = true) : qW64 n = n := by
  cases n with
  | ofNat m =>
    have h : Nat.ble m 9223372036854775807 = true := h
    show Bool.rec (motive := fun _ => Int) (IntKind.wrap .i64 (.ofNat m)) (.ofNat m) (Nat.ble m 9223372036854775807) = _
    rw [h]
  | negSucc m =>
    have h : m ≤ 9223372036854775807 := Nat.le_of_ble_eq_true h
    rw [qW64_eq]
    have hx : (-9223372036854775808 : Int) ≤ Int.negSucc m ∧ Int.negSucc m < 0 := by
      rw [Int.negSucc_eq]; omega
    revert hx
    generalize Int.negSucc m = x
    intro hx
    show (if (true && decide (x % 18446744073709551616 ≥ 9223372036854775808)) = true then x % 18446744073709551616 - 18446744073709551616 else x % 18446744073709551616) = x
    split <;> rename_i hc <;> simp at hc <;> omega
noncomputable def qN64 (n : Int) (c : Value → Ans) : Ans := .node (qIn64 n) (c (.int .i64 n)) (c (.int .i64 (qW64 n)))
theorem qN64_ok {n : Int} {c : Value → Ans} (h : Tree.eval (qN64 n c) = some R) : Tree.eval (c (.int .i64 (qW64 n))) = some R := by
  unfold qN64 at h
  cases hb : qIn64 n with
  | true =>
    rw [hb] at h
    rw [qIn64_ok hb]
    exact h
  | false =>
    rw [hb] at h
    exact h
noncomputable def qAdd64 (x y : Value) (c : Value → Ans) : Ans := qI64 x (fun a => qI64 y (fun b => qN64 (qiAdd a b) c))
theorem qAdd64_ok {x y : Value} {c : Value → Ans} (h : Tree.eval (qAdd64 x y c) = some R) : ∃ v, fBin .add x y = some v ∧ Tree.eval (c v) = some R := by
  obtain ⟨a, rfl, h1⟩ := qI64_ok h
  obtain ⟨b, rfl, h2⟩ := qI64_ok h1
  exact ⟨_, by simp [fBin, kindEq, fInt, qW64_eq, qiAdd_eq], qN64_ok h2⟩
noncomputable def qSub64 (x y : Value) (c : Value → Ans) : Ans := qI64 x (fun a => qI64 y (fun b => qN64 (qiSub a b) c))
theorem qSub64_ok {x y : Value} {c : Value → Ans} (h : Tree.eval (qSub64 x y c) = some R) : ∃ v, fBin .sub x y = some v ∧ Tree.eval (c v) = some R := by
  obtain ⟨a, rfl, h1⟩ := qI64_ok h
  obtain ⟨b, rfl, h2⟩ := qI64_ok h1
  exact ⟨_, by simp [fBin, kindEq, fInt, qW64_eq, qiSub_eq], qN64_ok h2⟩
noncomputable def qMul64 (x y : Value) (c : Value → Ans) : Ans := qI64 x (fun a => qI64 y (fun b => qN64 (qiMul a b) c))
theorem qMul64_ok {x y : Value} {c : Value → Ans} (h : Tree.eval (qMul64 x y c) = some R) : ∃ v, fBin .mul x y = some v ∧ Tree.eval (c v) = some R := by
  obtain ⟨a, rfl, h1⟩ := qI64_ok h
  obtain ⟨b, rfl, h2⟩ := qI64_ok h1
  exact ⟨_, by simp [fBin, kindEq, fInt, qW64_eq, qiMul_eq], qN64_ok h2⟩
noncomputable def qEq64 (x y : Value) (c : Value → Ans) : Ans := qI64 x (fun a => qI64 y (fun b => c (.bool (qiEq a b))))
theorem qEq64_ok {x y : Value} {c : Value → Ans} (h : Tree.eval (qEq64 x y c) = some R) : ∃ v, fBin .eql x y = some v ∧ Tree.eval (c v) = some R := by
  obtain ⟨a, rfl, h1⟩ := qI64_ok h
  obtain ⟨b, rfl, h2⟩ := qI64_ok h1
  exact ⟨_, by simp [fBin, kindEq, fInt, qiLt_eq, qiEq_eq], h2⟩
noncomputable def qNe64 (x y : Value) (c : Value → Ans) : Ans := qI64 x (fun a => qI64 y (fun b => c (.bool (Bool.not (qiEq a b)))))
theorem qNe64_ok {x y : Value} {c : Value → Ans} (h : Tree.eval (qNe64 x y c) = some R) : ∃ v, fBin .neq x y = some v ∧ Tree.eval (c v) = some R := by
  obtain ⟨a, rfl, h1⟩ := qI64_ok h
  obtain ⟨b, rfl, h2⟩ := qI64_ok h1
  exact ⟨_, by simp [fBin, kindEq, fInt, qiLt_eq, qiEq_eq], h2⟩
noncomputable def qLt64 (x y : Value) (c : Value → Ans) : Ans := qI64 x (fun a => qI64 y (fun b => c (.bool (qiLt a b))))
theorem qLt64_ok {x y : Value} {c : Value → Ans} (h : Tree.eval (qLt64 x y c) = some R) : ∃ v, fBin .lss x y = some v ∧ Tree.eval (c v) = some R := by
  obtain ⟨a, rfl, h1⟩ := qI64_ok h
  obtain ⟨b, rfl, h2⟩ := qI64_ok h1
  exact ⟨_, by simp [fBin, kindEq, fInt, qiLt_eq, qiEq_eq], h2⟩
noncomputable def qLe64 (x y : Value) (c : Value → Ans) : Ans := qI64 x (fun a => qI64 y (fun b => c (.bool (Bool.not (qiLt b a)))))
theorem qLe64_ok {x y : Value} {c : Value → Ans} (h : Tree.eval (qLe64 x y c) = some R) : ∃ v, fBin .leq x y = some v ∧ Tree.eval (c v) = some R := by
  obtain ⟨a, rfl, h1⟩ := qI64_ok h
  obtain ⟨b, rfl, h2⟩ := qI64_ok h1
  exact ⟨_, by simp [fBin, kindEq, fInt, qiLt_eq, qiEq_eq], h2⟩
noncomputable def qGt64 (x y : Value) (c : Value → Ans) : Ans := qI64 x (fun a => qI64 y (fun b => c (.bool (qiLt b a))))
theorem qGt64_ok {x y : Value} {c : Value → Ans} (h : Tree.eval (qGt64 x y c) = some R) : ∃ v, fBin .gtr x y = some v ∧ Tree.eval (c v) = some R := by
  obtain ⟨a, rfl, h1⟩ := qI64_ok h
  obtain ⟨b, rfl, h2⟩ := qI64_ok h1
  exact ⟨_, by simp [fBin, kindEq, fInt, qiLt_eq, qiEq_eq], h2⟩
noncomputable def qGe64 (x y : Value) (c : Value → Ans) : Ans := qI64 x (fun a => qI64 y (fun b => c (.bool (Bool.not (qiLt a b)))))
theorem qGe64_ok {x y : Value} {c : Value → Ans} (h : Tree.eval (qGe64 x y c) = some R) : ∃ v, fBin .geq x y = some v ∧ Tree.eval (c v) = some R := by
  obtain ⟨a, rfl, h1⟩ := qI64_ok h
  obtain ⟨b, rfl, h2⟩ := qI64_ok h1
  exact ⟨_, by simp [fBin, kindEq, fInt, qiLt_eq, qiEq_eq], h2⟩
noncomputable def qbyEq (a b : List UInt8) : Bool :=
  List.rec (motive := fun _ => List UInt8 → Bool) (fun b => List.rec (motive := fun _ => Bool) true (fun _ _ _ => false) b)
    (fun x _ ih b => List.rec (motive := fun _ => (List UInt8 → Bool) → UInt8 → Bool) (fun _ _ => false) (fun y ys _ ih x => Bool.rec (motive := fun _ => Bool) false (ih ys) (Nat.beq x.toNat y.toNat)) b ih x) a b
theorem qbyEq_eq : ∀ (a b : List UInt8), qbyEq a b = byEq a b
  | [], [] => rfl
  | [], _ :: _ => rfl
  | _ :: _, [] => rfl
  | x :: xs, y :: ys => by
    show Bool.rec (motive := fun _ => Bool) false (qbyEq xs ys) (Nat.beq x.toNat y.toNat) = _
    rw [byEq, qbyEq_eq xs ys]
    cases Nat.beq x.toNat y.toNat <;> rfl
noncomputable def qStEq (x y : Value) (c : Value → Ans) : Ans := qStr x (fun a => qStr y (fun b => c (.bool (qbyEq a.data.toList b.data.toList))))
noncomputable def qStNe (x y : Value) (c : Value → Ans) : Ans := qStr x (fun a => qStr y (fun b => c (.bool (Bool.not (qbyEq a.data.toList b.data.toList)))))
theorem qStEq_ok {x y : Value} {c : Value → Ans} (h : Tree.eval (qStEq x y c) = some R) : ∃ v, fStr .eql x y = some v ∧ Tree.eval (c v) = some R := by
  obtain ⟨a, rfl, h_1⟩ := qStr_ok h
  obtain ⟨b, rfl, h_2⟩ := qStr_ok h_1
  exact ⟨_, by simp [fStr, qbyEq_eq], h_2⟩
theorem qStNe_ok {x y : Value} {c : Value → Ans} (h : Tree.eval (qStNe x y c) = some R) : ∃ v, fStr .neq x y = some v ∧ Tree.eval (c v) = some R := by
  obtain ⟨a, rfl, h_1⟩ := qStr_ok h
  obtain ⟨b, rfl, h_2⟩ := qStr_ok h_1
  exact ⟨_, by simp [fStr, qbyEq_eq], h_2⟩
noncomputable def llen {α : Type} (l : List α) : Nat := List.rec (motive := fun _ => Nat) 0 (fun _ _ ih => Nat.succ ih) l
theorem llen_eq {α : Type} : ∀ (l : List α), llen l = l.length
  | [] => rfl
  | _ :: l => by
    show Nat.succ (llen l) = _
    rw [llen_eq l]; rfl
noncomputable def qLen (k : LenOf) (x : Value) (c : Value → Ans) : Ans :=
  LenOf.rec (motive := fun _ => Value → (Value → Ans) → Ans) (fun x c => qSlLen x (fun n => c (.int .i64 (.ofNat n)))) (fun x c => qStr x (fun s => c (.int .i64 (.ofNat (llen s.data.toList))))) k x c
theorem qLen_ok {k : LenOf} {x : Value} {c : Value → Ans} (h : Tree.eval (qLen k x c) = some R) : ∃ v, fLen k x = some v ∧ Tree.eval (c v) = some R := by
  cases k with
  | slice =>
    obtain ⟨a, l, p, rfl, h_1⟩ := qSlLen_ok h
    exact ⟨_, rfl, h_1⟩
  | string =>
    obtain ⟨s, rfl, h_1⟩ := qStr_ok h
    exact ⟨_, by simp [fLen, llen_eq], h_1⟩
noncomputable def qByte (x i : Value) (c : Value → Ans) : Ans :=
  qStr x (fun s => qInt i (fun _ n => qNat n (fun n => Option.rec (motive := fun _ => (Value → Ans) → Ans) (fun _ => failAt 22) (fun b c => c (.int .u8 (.ofNat b.toNat))) (nthO s.data.toList n) c)))
theorem qByte_ok {x i : Value} {c : Value → Ans} (h : Tree.eval (qByte x i c) = some R) : ∃ v, fByte x i = some v ∧ Tree.eval (c v) = some R := by
  obtain ⟨s, rfl, h_1⟩ := qStr_ok h
  obtain ⟨k, n, rfl, h_2⟩ := qInt_ok h_1
  obtain ⟨m, rfl, h_3⟩ := qNat_ok h_2
  cases hb : nthO s.data.toList m with
  | none => rw [hb] at h_3; exact (failAt_ne h_3).elim
  | some b =>
    rw [hb] at h_3
    rw [nthO_eq] at hb
    exact ⟨_, by simp only [fByte, hb], h_3⟩
theorem beqN (a b : Nat) : (a == b) = Nat.beq a b := by
  rw [Bool.eq_iff_iff]; simp [Nat.beq_eq]
noncomputable def hget {α : Type} (t : Trie α) (k : Nat) : Option α :=
  Trie.rec (motive := fun _ => Nat → Option α) (fun _ => none) (fun _ v _ ihl ihr k => Bool.rec (motive := fun _ => Option α)
    (Bool.rec (motive := fun _ => Nat → Option α) ihr ihl (Nat.beq (Nat.mod k 2) 1) (Nat.div (Nat.sub k 1) 2)) v (Nat.beq k 0)) t k
theorem digits_more : ∀ (n m k : Nat), k ≤ n → k ≤ m → digits n k = digits m k
  | 0, m, k, h, _ => by
    have : k = 0 := by omega
    subst this
    cases m <;> simp [digits]
  | n + 1, 0, k, _, h => by
    have : k = 0 := by omega
    subst this
    simp [digits]
  | n + 1, m + 1, k, h, h' => by
    by_cases hk : k = 0
    · simp [digits, hk]
    · simp only [digits, hk, if_false]
      rw [digits_more n m _ (by omega) (by omega)]
theorem hget_go {α : Type} : ∀ (t : Trie α) (k m : Nat), k ≤ m → hget t k = t.getAt (digits m k)
  | .leaf, k, m, _ => by rw [Trie.getAt_leaf]; rfl
  | .node l v r, k, m, hm => by
    have e : hget (.node l v r) k = Bool.rec (motive := fun _ => Option α)
        (Bool.rec (motive := fun _ => Nat → Option α) (hget r) (hget l) (Nat.beq (Nat.mod k 2) 1) (Nat.div (Nat.sub k 1) 2)) v (Nat.beq k 0) := rfl
    rw [e]
    cases hk : Nat.beq k 0 with
    | true =>
      have : k = 0 := Nat.eq_of_beq_eq_true hk
      subst this
      have hd : digits m 0 = [] := by cases m <;> simp [digits]
      rw [hd]; rfl
    | false =>
      have hk0 : k ≠ 0 := fun e => by subst e; simp at hk
      obtain ⟨m, rfl⟩ : ∃ m', m = m' + 1 := ⟨m - 1, by omega⟩
      have hd : digits (m + 1) k = (k % 2 == 1) :: digits m ((k - 1) / 2) := by simp [digits, hk0]
      rw [hd]
      cases hb : Nat.beq (Nat.mod k 2) 1 with
      | true =>
        have : (k % 2 == 1) = true := by rw [beqN]; exact hb
        rw [this]; exact hget_go l ((k - 1) / 2) m (by omega)
      | false =>
        have : (k % 2 == 1) = false := by rw [beqN]; exact hb
        rw [this]; exact hget_go r ((k - 1) / 2) m (by omega)
theorem hget_eq {α : Type} (t : Trie α) (k : Nat) : hget t k = t.get k := hget_go t k k (Nat.le_refl _)
theorem hget_ok {o : AObj} {A : AS} {B : Nat} (h : hget A.heap B = some o) : A.get B = some o := by rw [hget_eq] at h; exact h
noncomputable def hput {α : Type} (n : Nat) : Option α → Trie α → Nat → Trie α :=
  Nat.rec (motive := fun _ => Option α → Trie α → Nat → Trie α) (fun v t k => t.setAt v (digits k k)) (fun _ ih v t k =>
    Trie.rec (motive := fun _ => Nat → Option α → (Option α → Trie α → Nat → Trie α) → Trie α)
      (fun k v ih => Bool.rec (motive := fun _ => Trie α)
        (Bool.rec (motive := fun _ => Trie α) (.node .leaf none (ih v .leaf (Nat.div (Nat.sub k 1) 2))) (.node (ih v .leaf (Nat.div (Nat.sub k 1) 2)) none .leaf) (Nat.beq (Nat.mod k 2) 1))
        (.node .leaf v .leaf) (Nat.beq k 0))
      (fun l x r _ _ k v ih => Bool.rec (motive := fun _ => Trie α)
        (Bool.rec (motive := fun _ => Trie α) (.node l x (ih v r (Nat.div (Nat.sub k 1) 2))) (.node (ih v l (Nat.div (Nat.sub k 1) 2)) x r) (Nat.beq (Nat.mod k 2) 1))
        (.node l v r) (Nat.beq k 0)) t k v ih) n
noncomputable def hset {α : Type} (t : Trie α) (k : Nat) (v : Option α) : Trie α :=
  Trie.rec (motive := fun _ => Option α → Nat → Trie α) (fun v k => hput 64 v .leaf k) (fun l x r ihl ihr v k => Bool.rec (motive := fun _ => Trie α)
    (Bool.rec (motive := fun _ => Trie α) (.node l x (ihr v (Nat.div (Nat.sub k 1) 2))) (.node (ihl v (Nat.div (Nat.sub k 1) 2)) x r) (Nat.beq (Nat.mod k 2) 1))
    (.node l v r) (Nat.beq k 0)) t v k
theorem hput_ok {α : Type} {v : Option α} : ∀ (n : Nat) (t : Trie α) (k m : Nat), k ≤ m → hput n v t k = t.setAt v (digits m k)
  | 0, t, k, m, hm => by
    show t.setAt v (digits k k) = _
    rw [digits_more k m k (Nat.le_refl _) hm]
  | n + 1, t, k, m, hm => by
    cases hk : Nat.beq k 0 with
    | true =>
      have : k = 0 := Nat.eq_of_beq_eq_true hk
      subst this
      have hd : digits m 0 = [] := by cases m <;> simp [digits]
      rw [hd]
      cases t <;> rfl
    | false =>
      have hk0 : k ≠ 0 := fun e => by subst e; simp at hk
      obtain ⟨m, rfl⟩ : ∃ m', m = m' + 1 := ⟨m - 1, by omega⟩
      have hd : digits (m + 1) k = (k % 2 == 1) :: digits m ((k - 1) / 2) := by simp [digits, hk0]
      rw [hd]
      have ih := fun (t : Trie α) => hput_ok (v := v) n t ((k - 1) / 2) m (by omega)
      cases t with
      | leaf =>
        have e : hput (n + 1) v .leaf k = Bool.rec (motive := fun _ => Trie α)
            (Bool.rec (motive := fun _ => Trie α) (.node .leaf none (hput n v .leaf ((k - 1) / 2))) (.node (hput n v .leaf ((k - 1) / 2)) none .leaf) (Nat.beq (Nat.mod k 2) 1))
            (.node .leaf v .leaf) (Nat.beq k 0) := rfl
        rw [e, hk]
        cases hb : Nat.beq (Nat.mod k 2) 1 with
        | true =>
          have : (k % 2 == 1) = true := by rw [beqN]; exact hb
          rw [this]
          show Trie.node (hput n v .leaf ((k - 1) / 2)) none .leaf = _
          rw [ih]; rfl
        | false =>
          have : (k % 2 == 1) = false := by rw [beqN]; exact hb
          rw [this]
          show Trie.node .leaf none (hput n v .leaf ((k - 1) / 2)) = _
          rw [ih]; rfl
      | node l x r =>
        have e : hput (n + 1) v (.node l x r) k = Bool.rec (motive := fun _ => Trie α)
            (Bool.rec (motive := fun _ => Trie α) (.node l x (hput n v r ((k - 1) / 2))) (.node (hput n v l ((k - 1) / 2)) x r) (Nat.beq (Nat.mod k 2) 1))
            (.node l v r) (Nat.beq k 0) := rfl
        rw [e, hk]
        cases hb : Nat.beq (Nat.mod k 2) 1 with
        | true =>
          have : (k % 2 == 1) = true := by rw [beqN]; exact hb
          rw [this]
          show Trie.node (hput n v l ((k - 1) / 2)) x r = _
          rw [ih]; rfl
        | false =>
          have : (k % 2 == 1) = false := by rw [beqN]; exact hb
          rw [this]
          show Trie.node l x (hput n v r ((k - 1) / 2)) = _
          rw [ih]; rfl
theorem hset_go {α : Type} {v : Option α} : ∀ (t : Trie α) (k m : Nat), k ≤ m → hset t k v = t.setAt v (digits m k)
  | .leaf, k, m, hm => hput_ok 64 .leaf k m hm
  | .node l x r, k, m, hm => by
    have e : hset (.node l x r) k v = Bool.rec (motive := fun _ => Trie α)
        (Bool.rec (motive := fun _ => Trie α) (.node l x (hset r ((k - 1) / 2) v)) (.node (hset l ((k - 1) / 2) v) x r) (Nat.beq (Nat.mod k 2) 1))
        (.node l v r) (Nat.beq k 0) := rfl
    rw [e]
    cases hk : Nat.beq k 0 with
    | true =>
      have : k = 0 := Nat.eq_of_beq_eq_true hk
      subst this
      have hd : digits m 0 = [] := by cases m <;> simp [digits]
      rw [hd]; rfl
    | false =>
      have hk0 : k ≠ 0 := fun e => by subst e; simp at hk
      obtain ⟨m, rfl⟩ : ∃ m', m = m' + 1 := ⟨m - 1, by omega⟩
      have hd : digits (m + 1) k = (k % 2 == 1) :: digits m ((k - 1) / 2) := by simp [digits, hk0]
      rw [hd]
      cases hb : Nat.beq (Nat.mod k 2) 1 with
      | true =>
        have : (k % 2 == 1) = true := by rw [beqN]; exact hb
        rw [this]
        show Trie.node (hset l ((k - 1) / 2) v) x r = _
        rw [hset_go l ((k - 1) / 2) m (by omega)]; rfl
      | false =>
        have : (k % 2 == 1) = false := by rw [beqN]; exact hb
        rw [this]
        show Trie.node l x (hset r ((k - 1) / 2) v) = _
        rw [hset_go r ((k - 1) / 2) m (by omega)]; rfl
theorem hset_eq {α : Type} (t : Trie α) (k : Nat) (v : Option α) : hset t k v = t.set k v := hset_go t k k (Nat.le_refl _)
noncomputable def qCells (A : AS) (B : Nat) (c : List Value → Nat → Bool → Ans) : Ans :=
  .obj (hget A.heap B) (fun o => AObj.rec (motive := fun _ => Ans) (fun cs z e => c cs z e) (fun _ _ => failAt 31) (fun _ _ => failAt 32) (fun _ _ _ _ => failAt 33)
      (fun _ _ _ _ _ _ _ _ _ => failAt 34) (failAt 35) o)
theorem qCells_ok {A : AS} {B : Nat} {c : List Value → Nat → Bool → Ans} (h : Tree.eval (qCells A B c) = some R) : ∃ cs z e, A.get B = some (.cells cs z e) ∧ Tree.eval (c cs z e) = some R := by
  unfold qCells at h
  cases hg : hget A.heap B with
  | none => rw [hg] at h; exact (failAt_ne h).elim
  | some o =>
    rw [hg] at h
    cases o <;> first | exact ⟨_, _, _, hget_ok hg, h⟩ | exact (failAt_ne h).elim
noncomputable def qTake (n : Nat) (cs : List Value) (c : List Value → Ans) : Ans :=
  Nat.rec (motive := fun _ => List Value → (List Value → Ans) → Ans) (fun _ c => c []) (fun _ ih cs c =>
    List.rec (motive := fun _ => (List Value → (List Value → Ans) → Ans) → (List Value → Ans) → Ans) (fun _ _ => failAt 36) (fun x xs _ ih c => ih xs (fun l => c (x :: l))) cs ih c) n cs c
theorem qTake_ok : ∀ {n : Nat} {cs : List Value} {c : List Value → Ans}, Tree.eval (qTake n cs c) = some R → (cs.take n).length = n ∧ Tree.eval (c (cs.take n)) = some R
  | 0, cs, c, h => ⟨by simp, by rw [List.take_zero]; exact h⟩
  | n + 1, [], c, h => (failAt_ne h).elim
  | n + 1, x :: xs, c, h => by
    have h : Tree.eval (qTake n xs (fun l => c (x :: l))) = some R := h
    obtain ⟨h1, h2⟩ := qTake_ok h
    exact ⟨by simp only [List.take_succ_cons, List.length_cons, h1], by simpa using h2⟩
noncomputable def qDrop (n : Nat) (cs : List Value) (c : List Value → Ans) : Ans :=
  Nat.rec (motive := fun _ => List Value → (List Value → Ans) → Ans) (fun cs c => c cs) (fun _ ih cs c =>
    List.rec (motive := fun _ => (List Value → (List Value → Ans) → Ans) → (List Value → Ans) → Ans) (fun _ _ => failAt 37) (fun _ xs _ ih c => ih xs c) cs ih c) n cs c
theorem qDrop_ok : ∀ {n : Nat} {cs : List Value} {c : List Value → Ans}, Tree.eval (qDrop n cs c) = some R → Tree.eval (c (cs.drop n)) = some R
  | 0, cs, c, h => by rw [List.drop_zero]; exact h
  | n + 1, [], c, h => (failAt_ne h).elim
  | n + 1, x :: xs, c, h => by
    have h : Tree.eval (qDrop n xs c) = some R := h
    simpa using qDrop_ok h
theorem ask_ok {cs : List Value} {o n : Nat} {c : List Value → Tree} (h : Tree.eval (.ask cs o n c) = some R) : ∃ l, piece cs o n = some l ∧ Tree.eval (c l) = some R := by
  unfold Tree.eval at h
  split at h
  · rename_i l hl; exact ⟨l, hl, h⟩
  · cases h
noncomputable def qLoad (n : Option Nat) (A : AS) (x : Value) (c : Value → Ans) : Ans :=
  Option.rec (motive := fun _ => AS → Value → (Value → Ans) → Ans)
    (fun A x c => qPtr x (fun B o => qCells A B (fun cs _ _ => .ask cs o 1 (fun l => qNth 0 l c))))
    (fun n A x c => qPtr x (fun B o => qCells A B (fun cs _ _ => .ask cs o n (fun l => c (.agg ⟨l⟩))))) n A x c
theorem qLoad_ok {n : Option Nat} {A : AS} {x : Value} {c : Value → Ans} (h : Tree.eval (qLoad n A x c) = some R) : ∃ v, fLoad n A x = some v ∧ Tree.eval (c v) = some R := by
  cases n with
  | none =>
    obtain ⟨B, o, rfl, h1⟩ := qPtr_ok h
    obtain ⟨cs, z, e, hg, h2⟩ := qCells_ok h1
    obtain ⟨l, hl, h3⟩ := ask_ok h2
    obtain ⟨v, hv, h4⟩ := qNth_ok h3
    refine ⟨v, ?_, h4⟩
    simp only [fLoad, hg]
    unfold piece at hl
    simp only at hl
    split at hl
    · simp only [Option.some.injEq] at hl
      subst hl
      rw [List.getElem?_take, List.getElem?_drop] at hv
      simpa using hv
    · cases hl
  | some n =>
    obtain ⟨B, o, rfl, h1⟩ := qPtr_ok h
    obtain ⟨cs, z, e, hg, h2⟩ := qCells_ok h1
    obtain ⟨l, hl, h3⟩ := ask_ok h2
    exact ⟨_, by simp only [fLoad, hg, hl, Option.map_some], h3⟩
noncomputable def qIdxS (z : Nat) (x i : Value) (c : Value → Ans) : Ans :=
  qSlc x (fun B o len _ => qInt i (fun _ n => qNat n (fun j => qIf (Nat.ble (Nat.succ j) len) (c (.pointer (some ⟨B, Nat.add o (Nat.mul j z), none⟩))) (failAt 40))))
noncomputable def qIdxA (n z : Nat) (x i : Value) (c : Value → Ans) : Ans :=
  qPtr x (fun B o => qInt i (fun _ m => qNat m (fun j => qIf (Nat.ble (Nat.succ j) n) (c (.pointer (some ⟨B, Nat.add o (Nat.mul j z), none⟩))) (failAt 41))))
theorem qIdxS_ok {n z : Nat} {x i : Value} {c : Value → Ans} (h : Tree.eval (qIdxS z x i c) = some R) : ∃ v, fIdx true n z x i = some v ∧ Tree.eval (c v) = some R := by
  obtain ⟨B, o, l, p, rfl, h_1⟩ := qSlc_ok h
  obtain ⟨k, m, rfl, h_2⟩ := qInt_ok h_1
  obtain ⟨j, rfl, h_3⟩ := qNat_ok h_2
  obtain ⟨hb, h_4⟩ := qIf_ok h_3
  have hb : Nat.blt j l = true := hb
  exact ⟨_, by simp only [fIdx, hb, if_true]; rfl, h_4⟩
theorem qIdxA_ok {n z : Nat} {x i : Value} {c : Value → Ans} (h : Tree.eval (qIdxA n z x i c) = some R) : ∃ v, fIdx false n z x i = some v ∧ Tree.eval (c v) = some R := by
  obtain ⟨B, o, rfl, h_1⟩ := qPtr_ok h
  obtain ⟨k, m, rfl, h_2⟩ := qInt_ok h_1
  obtain ⟨j, rfl, h_3⟩ := qNat_ok h_2
  obtain ⟨hb, h_4⟩ := qIf_ok h_3
  have hb : Nat.blt j n = true := hb
  exact ⟨_, by simp only [fIdx, hb, if_true]; rfl, h_4⟩
noncomputable def qField (off : Nat) (x : Value) (c : Value → Ans) : Ans := qPtr x (fun B o => c (.pointer (some ⟨B, Nat.add o off, none⟩)))
theorem qField_ok {off : Nat} {x : Value} {c : Value → Ans} (h : Tree.eval (qField off x c) = some R) : ∃ v, fField off x = some v ∧ Tree.eval (c v) = some R := by
  obtain ⟨B, o, rfl, h_1⟩ := qPtr_ok h
  exact ⟨_, rfl, h_1⟩
theorem qNil_f {x : Value} {c : Value → Ans} (h : Tree.eval (qNil x c) = some R) : ∃ v, fNil x = some v ∧ Tree.eval (c v) = some R := by
  obtain ⟨a, rfl, h_1⟩ := qNil_ok h
  exact ⟨_, rfl, h_1⟩
noncomputable def qNot (x : Value) (c : Value → Ans) : Ans := qBool x (fun b => c (.bool (Bool.not b)))
theorem qNot_ok {x : Value} {c : Value → Ans} (h : Tree.eval (qNot x c) = some R) : ∃ v, fUn .not x = some v ∧ Tree.eval (c v) = some R := by
  obtain ⟨b, rfl, h_1⟩ := qBool_ok h
  exact ⟨_, rfl, h_1⟩
noncomputable def qExt (x : Value) (i : Nat) (c : Value → Ans) : Ans := qTup x (fun vs => qNth i vs c)
theorem qExt_ok {x : Value} {i : Nat} {c : Value → Ans} (h : Tree.eval (qExt x i c) = some R) : ∃ v, fExtract x i = some v ∧ Tree.eval (c v) = some R := by
  obtain ⟨vs, rfl, h_1⟩ := qTup_ok h
  obtain ⟨v, h1, h2⟩ := qNth_ok h_1
  exact ⟨v, h1, h2⟩
noncomputable def qPick (x a b : Value) (c : Value → Ans) : Ans := qBool x (fun t => .node t (qForce a c) (qForce b c))
theorem qPick_ok {x a b : Value} {c : Value → Ans} (h : Tree.eval (qPick x a b c) = some R) : ∃ v, fPick x a b = some v ∧ Tree.eval (c v) = some R := by
  obtain ⟨t, rfl, h_1⟩ := qBool_ok h
  cases t with
  | true => exact ⟨a, rfl, qForce_ok h_1⟩
  | false => exact ⟨b, rfl, qForce_ok h_1⟩
noncomputable def qBnd (v : Option Value) (dflt top : Nat) (c : Nat → Ans) : Ans :=
  Option.rec (motive := fun _ => Nat → Nat → (Nat → Ans) → Ans) (fun d _ c => c d) (fun v _ top c => qInt v (fun _ n => qNat n (fun n => qIf (Nat.ble n top) (c n) (failAt 42)))) v dflt top c
theorem qBnd_ok {v : Option Value} {dflt top : Nat} {c : Nat → Ans} (h : Tree.eval (qBnd v dflt top c) = some R) : ∃ n, kBound v dflt top = some n ∧ Tree.eval (c n) = some R := by
  cases v with
  | none => exact ⟨dflt, rfl, h⟩
  | some v =>
    obtain ⟨k, m, rfl, h_1⟩ := qInt_ok h
    obtain ⟨j, rfl, h_2⟩ := qNat_ok h_1
    obtain ⟨hb, h_3⟩ := qIf_ok h_2
    exact ⟨j, by simp only [kBound, hb, if_true], h_3⟩
noncomputable def bTake (n : Nat) (l : List UInt8) (c : List UInt8 → Ans) : Ans :=
  Nat.rec (motive := fun _ => List UInt8 → (List UInt8 → Ans) → Ans) (fun _ c => c []) (fun _ ih l c =>
    List.rec (motive := fun _ => (List UInt8 → (List UInt8 → Ans) → Ans) → (List UInt8 → Ans) → Ans) (fun _ c => c []) (fun x xs _ ih c => ih xs (fun l => c (x :: l))) l ih c) n l c
theorem bTake_eq : ∀ (n : Nat) (l : List UInt8) (c : List UInt8 → Ans), bTake n l c = c (l.take n)
  | 0, l, c => by rw [List.take_zero]; rfl
  | n + 1, [], c => rfl
  | n + 1, x :: xs, c => by
    show bTake n xs (fun l => c (x :: l)) = _
    rw [bTake_eq n xs]; rfl
noncomputable def bDrop (n : Nat) (l : List UInt8) : List UInt8 :=
  Nat.rec (motive := fun _ => List UInt8 → List UInt8) (fun l => l) (fun _ ih l => List.rec (motive := fun _ => (List UInt8 → List UInt8) → List UInt8) (fun _ => []) (fun _ xs _ ih => ih xs) l ih) n l
theorem bDrop_eq : ∀ (n : Nat) (l : List UInt8), bDrop n l = l.drop n
  | 0, l => by rw [List.drop_zero]; rfl
  | n + 1, [] => rfl
  | n + 1, x :: xs => by
    show bDrop n xs = _
    rw [bDrop_eq n xs]; rfl
noncomputable def qSlStr (x : Value) (lo hi : Option Value) (c : Value → Ans) : Ans :=
  qStr x (fun s => qBnd hi (llen s.data.toList) (llen s.data.toList) (fun h => qBnd lo 0 h (fun l => bTake (Nat.sub h l) (bDrop l s.data.toList) (fun l => c (.string ⟨⟨l⟩⟩)))))
theorem qSlStr_ok {x : Value} {lo hi : Option Value} {c : Value → Ans} (h : Tree.eval (qSlStr x lo hi c) = some R) : ∃ v, fSlStr x lo hi = some v ∧ Tree.eval (c v) = some R := by
  obtain ⟨s, rfl, h_1⟩ := qStr_ok h
  obtain ⟨n, hn, h_2⟩ := qBnd_ok h_1
  obtain ⟨l, hl, h_3⟩ := qBnd_ok h_2
  rw [llen_eq] at hn
  rw [bTake_eq, bDrop_eq] at h_3
  exact ⟨_, by simp only [fSlStr, hn, hl]; rfl, h_3⟩
noncomputable def qSli (z : Nat) (x : Value) (lo hi : Option Value) (e : Ans) (c : Value → Ans) : Ans :=
  qSlc x (fun B o len p => qBnd hi len p (fun h => qBnd lo 0 h (fun l => .node (Bool.rec (motive := fun _ => Bool) (Nat.beq l 0) true (Nat.ble (Nat.succ l) p))
    (c (.slice (some ⟨B, Nat.add o (Nat.mul l z), none⟩) (Nat.sub h l) (Nat.sub p l))) e)))
theorem qSli_ok {z : Nat} {x : Value} {lo hi : Option Value} {e : Ans} {c : Value → Ans} (h : Tree.eval (qSli z x lo hi e c) = some R) : (∃ v, fSlice z x lo hi = some v ∧ Tree.eval (c v) = some R) ∨ Tree.eval (e) = some R := by
  obtain ⟨B, o, len, p, rfl, h_1⟩ := qSlc_ok h
  obtain ⟨n, hn, h_2⟩ := qBnd_ok h_1
  obtain ⟨l, hl, h_3⟩ := qBnd_ok h_2
  cases hb : (Bool.rec (motive := fun _ => Bool) (Nat.beq l 0) true (Nat.ble (Nat.succ l) p) : Bool) with
  | false => rw [hb] at h_3; exact .inr h_3
  | true =>
    rw [hb] at h_3
    have hb : (Nat.blt l p || Nat.beq l 0) = true := by
      show (Nat.ble (Nat.succ l) p || Nat.beq l 0) = true
      cases hq : Nat.ble (Nat.succ l) p with
      | true => rfl
      | false => rw [hq] at hb; exact hb
    exact .inl ⟨_, by simp only [fSlice, hn, hl, hb, if_true]; rfl, h_3⟩
noncomputable def qWr (A : AS) (B : Nat) (o : Option AObj) (c : AS → Ans) : Ans :=
  AS.rec (motive := fun _ => Nat → Option AObj → (AS → Ans) → Ans) (fun h n r B o c => c (AS.mk (hset h B o) n r)) A B o c
theorem qWr_eq {A : AS} {B : Nat} {o : Option AObj} {c : AS → Ans} : qWr A B o c = c (A.put B o) := by
  obtain ⟨h, n, r⟩ := A
  show c (AS.mk (hset h B o) n r) = _
  rw [hset_eq]; rfl
noncomputable def qStore (A : AS) (a v : Value) (c : AS → Ans) : Ans :=
  qPtr a (fun B o => qOneV v (fun v => qCells A B (fun cs z x => qIf (Nat.ble A.ro B) (qNth o cs (fun _ => qWr A B (some (.cells (lset o v cs) z x)) c)) (failAt 44))))
theorem qStore_ok {A : AS} {a v : Value} {c : AS → Ans} (h : Tree.eval (qStore A a v c) = some R) : ∃ A', fStore A a v = some A' ∧ Tree.eval (c A') = some R := by
  obtain ⟨B, o, rfl, h_1⟩ := qPtr_ok h
  obtain ⟨h1, h_2⟩ := qOneV_ok h_1
  obtain ⟨cs, z, e, hg, h_3⟩ := qCells_ok h_2
  obtain ⟨hb, h_4⟩ := qIf_ok h_3
  obtain ⟨u, hu, h_5⟩ := qNth_ok h_4
  rw [qWr_eq] at h_5
  refine ⟨_, ?_, h_5⟩
  simp only [fStore, h1, hg, hb, lset_ok hu, if_true]
noncomputable def qNew (A : AS) (cs : List Value) (c : Value → AS → Ans) : Ans :=
  AS.rec (motive := fun _ => List Value → (Value → AS → Ans) → Ans) (fun h n r cs c => c (.pointer (some ⟨n, 0, none⟩)) (AS.mk (hset h n (some (.cells cs 0 false))) (Nat.succ n) r)) A cs c
theorem qNew_ok {A : AS} {cs : List Value} {c : Value → AS → Ans} (h : Tree.eval (qNew A cs c) = some R) : Tree.eval (c (.pointer (some ⟨A.next, 0, none⟩)) (A.new (.cells cs 0 false))) = some R := by
  obtain ⟨hp, n, r⟩ := A
  have e : qNew ⟨hp, n, r⟩ cs c = c (.pointer (some ⟨n, 0, none⟩)) (AS.mk (hset hp n (some (.cells cs 0 false))) (Nat.succ n) r) := rfl
  rw [e, hset_eq] at h
  exact h
end Go.Dp.Tr
namespace Go.Dp.Tr
open Go Go.Dp
variable {R : Value × AS} {P : Program} {ρ : Operand → Value} {o : Oper} {A : AS}
noncomputable def qOver (vs cs : List Value) (c : List Value → Ans) : Ans :=
  List.rec (motive := fun _ => List Value → (List Value → Ans) → Ans) (fun cs c => c cs)
    (fun v _ ih cs c => List.rec (motive := fun _ => Value → (List Value → (List Value → Ans) → Ans) → (List Value → Ans) → Ans) (fun _ _ _ => failAt 150) (fun _ xs _ v ih c => ih xs (fun l => c (v :: l))) cs v ih c) vs cs c
theorem qOver_ok : ∀ {vs cs : List Value} {c : List Value → Ans}, Tree.eval (qOver vs cs c) = some R → vs.length ≤ cs.length ∧ Tree.eval (c (vs ++ cs.drop vs.length)) = some R
  | [], cs, c, h => ⟨Nat.zero_le _, h⟩
  | v :: vs, [], c, h => (failAt_ne h).elim
  | v :: vs, x :: xs, c, h => by
    have h : Tree.eval (qOver vs xs (fun l => c (v :: l))) = some R := h
    obtain ⟨h1, h2⟩ := qOver_ok h
    exact ⟨by simp only [List.length_cons]; omega, by simpa using h2⟩
noncomputable def qSpl (i : Nat) (vs cs : List Value) (c : List Value → Ans) : Ans :=
  Nat.rec (motive := fun _ => List Value → List Value → (List Value → Ans) → Ans) (fun vs cs c => qOver vs cs c)
    (fun _ ih vs cs c => List.rec (motive := fun _ => List Value → (List Value → List Value → (List Value → Ans) → Ans) → (List Value → Ans) → Ans) (fun _ _ _ => failAt 151) (fun x xs _ vs ih c => ih vs xs (fun l => c (x :: l))) cs vs ih c) i vs cs c
theorem qSpl_ok : ∀ {i : Nat} {vs cs : List Value} {c : List Value → Ans}, Tree.eval (qSpl i vs cs c) = some R → i + vs.length ≤ cs.length ∧ Tree.eval (c (splice cs i vs)) = some R
  | 0, vs, cs, c, h => by
    have h : Tree.eval (qOver vs cs c) = some R := h
    obtain ⟨h1, h2⟩ := qOver_ok h
    exact ⟨by omega, by simpa [splice] using h2⟩
  | i + 1, vs, [], c, h => (failAt_ne h).elim
  | i + 1, vs, x :: xs, c, h => by
    have h : Tree.eval (qSpl i vs xs (fun l => c (x :: l))) = some R := h
    obtain ⟨h1, h2⟩ := qSpl_ok h
    refine ⟨by simp only [List.length_cons]; omega, ?_⟩
    have e : splice (x :: xs) (i + 1) vs = x :: splice xs i vs := by
      have : i + 1 + vs.length = (i + vs.length) + 1 := by omega
      simp [splice, this]
    rw [e]; exact h2
noncomputable def qAllOne (vs : List Value) (c : Unit → Ans) : Ans :=
  List.rec (motive := fun _ => (Unit → Ans) → Ans) (fun c => c ()) (fun v _ ih c => qOne v (fun _ => ih c)) vs c
theorem qAllOne_ok : ∀ {vs : List Value} {c : Unit → Ans}, Tree.eval (qAllOne vs c) = some R → vs.all Value.oneCell' = true ∧ Tree.eval (c ()) = some R
  | [], c, h => ⟨rfl, h⟩
  | v :: vs, c, h => by
    have h : Tree.eval (qOne v (fun _ => qAllOne vs c)) = some R := h
    obtain ⟨h1, h2⟩ := qOne_ok h
    obtain ⟨h3, h4⟩ := qAllOne_ok h2
    have : Value.oneCell' v = true := by
      unfold oneV at h1
      cases v <;> simp_all [Value.oneCell']
    exact ⟨by rw [List.all_cons, this, h3]; rfl, h4⟩
noncomputable def qStoreN (n : Nat) (A : AS) (a v : Value) (c : AS → Ans) : Ans :=
  qPtr a (fun B i => qCellsV v (fun vs => qIf (Nat.beq (llen vs) n) (qAllOne vs (fun _ => qCells A B (fun cs z x => qIf (Nat.ble A.ro B)
    (qSpl i vs cs (fun cs => qWr A B (some (.cells cs z x)) c)) (failAt 152)))) (failAt 153)))
theorem qStoreN_ok {t : TypeId} {a x : Operand} {n : Nat} {c : AS → Ans} (ho : o.op = .store t a x) (hn : tSize P t = some n) (h : Tree.eval (qStoreN n A (ρ a) (ρ x) c) = some R) :
    ∃ A', aExec P ρ o A = some (.skip, A') ∧ Tree.eval (c A') = some R := by
  obtain ⟨B, i, ha, h1⟩ := qPtr_ok h
  have h2 := qCellsV_ok h1
  obtain ⟨hl, h3⟩ := qIf_ok h2
  obtain ⟨hone, h4⟩ := qAllOne_ok h3
  obtain ⟨cs, z, e, hg, h5⟩ := qCells_ok h4
  obtain ⟨hro, h6⟩ := qIf_ok h5
  obtain ⟨hlen, h7⟩ := qSpl_ok h6
  rw [llen_eq] at hl
  have hl : (ρ x).cells.toList.length = n := Nat.eq_of_beq_eq_true hl
  have hp : plainOp ρ o = false := by simp [plainOp, ho]
  have hs : aStore P A t (ρ a) (ρ x) = some (A.put B (some (.cells (splice cs i (ρ x).cells.toList) z e))) := by
    have h1 : Nat.beq (ρ x).cells.size n = true := by
      rw [Nat.beq_eq]; simpa using hl
    have h2 : Nat.ble (i + (ρ x).cells.toList.length) cs.length = true := Nat.ble_eq_true_of_le hlen
    simp only [aStore, ha, hn, h1, if_true, storeAll, hg, hro, h2, hone, Bool.and_self]
  rw [qWr_eq] at h7
  exact ⟨_, by simp [aExec, hp, aSpecial, ho, hs], h7⟩
noncomputable def qConv (k : IntKind) (x : Value) (c : Value → Ans) : Ans := qInt x (fun _ n => c (.int k (qWrap k n)))
theorem qConv_ok {s d : TypeId} {x : Operand} {k : IntKind} {a : TypeDesc} {c : Value → Ans} (ho : o.op = .convert s d x) (hs : P.underlying s = some a) (hd : P.underlying d = some (.int k))
    (h : Tree.eval (qConv k (ρ x) c) = some R) : ∃ v, aExec P ρ o A = some (.value v, A) ∧ Tree.eval (c v) = some R := by
  obtain ⟨j, n, hx, h1⟩ := qInt_ok h
  refine ⟨_, ?_, h1⟩
  have hp : plainOp ρ o = true := by simp [plainOp, ho, Op.operands, hx, flat, scalar]
  have hrun : pureRun P (execOp ρ o) = some (.value (.int k (k.wrap n))) := by
    simp [execOp, ho, convert, underlying, program, hs, hd, hx, bind, Sem.bind, pure, pureRun, Conv.intToInt]
  rw [qWrap_eq]
  simp [aExec, hp, aFlat, hrun, flat, scalar]
theorem splice_cons {cs : List Value} {i : Nat} {v : Value} {vs : List Value} (h : i + (vs.length + 1) ≤ cs.length) : splice cs i (v :: vs) = splice (cs.set i v) (i + 1) vs := by
  apply List.ext_getElem?
  intro j
  rw [splice_get (by simpa using h), splice_get (by simp; omega), List.getElem?_set]
  simp only [List.length_cons]
  by_cases h1 : j < i
  · have : ¬ i = j := by omega
    simp [h1, show j < i + 1 by omega, this]
  · by_cases h2 : j = i
    · subst h2
      simp [show j < j + (vs.length + 1) by omega, show j < cs.length by omega]
    · by_cases h3 : j < i + (vs.length + 1)
      · have e : j - i = (j - (i + 1)) + 1 := by omega
        simp only [h1, if_false, h3, if_true, show ¬ j < i + 1 by omega, show j < i + 1 + vs.length by omega]
        rw [e, List.getElem?_cons_succ]
      · have : ¬ i = j := by omega
        simp [h1, h3, show ¬ j < i + 1 by omega, show ¬ j < i + 1 + vs.length by omega, this]
theorem fold_splice (i : Nat) : ∀ (l : List Value) (k : Nat) (cs : Array Value), i + k + l.length ≤ cs.size →
    ((l.zipIdx k).foldl (fun (cs : Array Value) (p : Value × Nat) => cs.setIfInBounds (i + p.2) p.1) cs).toList = splice cs.toList (i + k) l
  | [], k, cs, h => by simp [splice]
  | v :: l, k, cs, h => by
    rw [List.zipIdx_cons, List.foldl_cons, fold_splice i l (k + 1) _ (by simp at h ⊢; omega)]
    rw [splice_cons (by simp at h ⊢; omega)]
    simp [Array.toList_setIfInBounds, Nat.add_assoc]
theorem fill_cons {pl : Nat → Option (Nat × Nat)} {i off n : Nat} {v : Value} {cs : List Value} {rest : List (Nat × Value)} (hp : pl i = some (off, n)) (hn : v.cells.toList.length = n) (hb : off + v.cells.toList.length ≤ cs.length) :
    Instr.fill pl ⟨cs⟩ ((i, v) :: rest) = Instr.fill pl ⟨splice cs off v.cells.toList⟩ rest := by
  have h1 : ¬ ((decide (v.cells.size ≠ n) || decide (off + v.cells.size > (⟨cs⟩ : Array Value).size)) = true) := by
    have : v.cells.size = n := by simpa using hn
    have h2 : off + v.cells.size ≤ cs.length := by simpa using hb
    simp only [List.size_toArray, Bool.or_eq_true, decide_eq_true_eq]
    omega
  have e : v.cells.zipIdx.foldl (fun (cs : Array Value) (p : Value × Nat) => cs.setIfInBounds (off + p.2) p.1) ⟨cs⟩ = ⟨splice cs off v.cells.toList⟩ := by
    apply Array.ext'
    have := fold_splice off v.cells.toList 0 ⟨cs⟩ (by simpa using hb)
    simp only [Nat.add_zero] at this
    rw [← this, ← Array.foldl_toList, Array.toList_zipIdx]
  conv => lhs; unfold Instr.fill
  simp only [hp]
  rw [if_neg h1]
  exact congrArg (fun x => Instr.fill pl x rest) e
noncomputable def qNewS (A : AS) (cs : List Value) (z : Nat) (len : Nat) (c : Value → AS → Ans) : Ans :=
  AS.rec (motive := fun _ => List Value → Nat → Nat → (Value → AS → Ans) → Ans) (fun h n r cs z len c => c (.slice (some ⟨n, 0, none⟩) len len) (AS.mk (hset h n (some (.cells cs z false))) (Nat.succ n) r)) A cs z len c
theorem qNewS_ok {cs : List Value} {z len : Nat} {c : Value → AS → Ans} (h : Tree.eval (qNewS A cs z len c) = some R) : Tree.eval (c (.slice (some ⟨A.next, 0, none⟩) len len) (A.new (.cells cs z false))) = some R := by
  obtain ⟨hp, n, r⟩ := A
  have e : qNewS ⟨hp, n, r⟩ cs z len c = c (.slice (some ⟨n, 0, none⟩) len len) (AS.mk (hset hp n (some (.cells cs z false))) (Nat.succ n) r) := rfl
  rw [e, hset_eq] at h
  exact h
noncomputable def qMin (x y : Value) (c : Value → Ans) : Ans := qInt x (fun k a => qInt y (fun _ b => qSel (qiLt b a) (c (.int k b)) (c (.int k a))))
noncomputable def qMax (x y : Value) (c : Value → Ans) : Ans := qInt x (fun k a => qInt y (fun _ b => qSel (qiLt a b) (c (.int k b)) (c (.int k a))))
theorem min_run {c : Call} {x y : Operand} {k j : IntKind} {a b : Int} (ho : o.op = .call c) (hc : c.callee = .builtin .min) (ha : c.args = #[x, y]) (hx : ρ x = .int k a) (hy : ρ y = .int j b) :
    aExec P ρ o A = some (.value (.int k (if b < a then b else a)), A) := by
  have hp : plainOp ρ o = true := by simp [plainOp, ho, hc, ha, hx, hy, flat, scalar]
  have hrun : pureRun P (execOp ρ o) = some (.value (.int k (if b < a then b else a))) := by
    simp [execOp, ho, hc, resolve, ha, invoke, builtin, Builtin.min_, Builtin.min2, hx, hy, pureRun, bind, Sem.bind, pure]
  simp [aExec, hp, aFlat, hrun, flat, scalar]
theorem max_run {c : Call} {x y : Operand} {k j : IntKind} {a b : Int} (ho : o.op = .call c) (hc : c.callee = .builtin .max) (ha : c.args = #[x, y]) (hx : ρ x = .int k a) (hy : ρ y = .int j b) :
    aExec P ρ o A = some (.value (.int k (if a < b then b else a)), A) := by
  have hp : plainOp ρ o = true := by simp [plainOp, ho, hc, ha, hx, hy, flat, scalar]
  have hrun : pureRun P (execOp ρ o) = some (.value (.int k (if a < b then b else a))) := by
    simp [execOp, ho, hc, resolve, ha, invoke, builtin, Builtin.max_, Builtin.max2, hx, hy, pureRun, bind, Sem.bind, pure]
  simp [aExec, hp, aFlat, hrun, flat, scalar]
theorem qMin_ok {c : Call} {x y : Operand} {k : Value → Ans} (ho : o.op = .call c) (hc : c.callee = .builtin .min) (ha : c.args = #[x, y]) (h : Tree.eval (qMin (ρ x) (ρ y) k) = some R) : ∃ v, aExec P ρ o A = some (.value v, A) ∧ Tree.eval (k v) = some R := by
  obtain ⟨k1, a, hx, h1⟩ := qInt_ok h
  obtain ⟨k2, b, hy, h2⟩ := qInt_ok h1
  refine ⟨_, min_run ho hc ha hx hy, ?_⟩
  rcases qSel_ok h2 with ⟨hb, h3⟩ | ⟨hb, h3⟩
  · rw [qiLt_eq, iLt_eq, decide_eq_true_eq] at hb
    rw [if_pos hb]; exact h3
  · rw [qiLt_eq, iLt_eq, decide_eq_false_iff_not] at hb
    rw [if_neg hb]; exact h3
theorem qMax_ok {c : Call} {x y : Operand} {k : Value → Ans} (ho : o.op = .call c) (hc : c.callee = .builtin .max) (ha : c.args = #[x, y]) (h : Tree.eval (qMax (ρ x) (ρ y) k) = some R) : ∃ v, aExec P ρ o A = some (.value v, A) ∧ Tree.eval (k v) = some R := by
  obtain ⟨k1, a, hx, h1⟩ := qInt_ok h
  obtain ⟨k2, b, hy, h2⟩ := qInt_ok h1
  refine ⟨_, max_run ho hc ha hx hy, ?_⟩
  rcases qSel_ok h2 with ⟨hb, h3⟩ | ⟨hb, h3⟩
  · rw [qiLt_eq, iLt_eq, decide_eq_true_eq] at hb
    rw [if_pos hb]; exact h3
  · rw [qiLt_eq, iLt_eq, decide_eq_false_iff_not] at hb
    rw [if_neg hb]; exact h3
end Go.Dp.Tr
namespace Go.Dp.Tr
open Go Go.Dp
structure KE where
  call : FuncId → List Value → AS → (Value → AS → Ans) → Ans
  round : Nat → List Value → AS → (Value → AS → Ans) → Ans
structure KO' (F : Type) where
  f : KE → (F → AS → Ans) → F → AS → Ans
def Ev (p : Nat → Prop) : Prop := ∃ m0, ∀ m, m0 ≤ m → p m
theorem Ev.of {p : Nat → Prop} (h : ∀ m, p m) : Ev p := ⟨0, fun m _ => h m⟩
theorem Ev.and {p q : Nat → Prop} : Ev p → Ev q → Ev fun m => p m ∧ q m
  | ⟨a, ha⟩, ⟨b, hb⟩ => ⟨max a b, fun m hm => ⟨ha m (by omega), hb m (by omega)⟩⟩
theorem Ev.imp {p q : Nat → Prop} (h : ∀ m, p m → q m) : Ev p → Ev q
  | ⟨a, ha⟩ => ⟨a, fun m hm => h m (ha m hm)⟩
structure EOk (E : KE) (cs : Nat → Calls2) : Prop where
  call : ∀ f args A K R, Tree.eval (E.call f args A K) = some R → ∃ v A', Ev (fun m => (cs m).call f args A = some (v, A')) ∧ Tree.eval (K v A') = some R
  round : ∀ l args A K R, Tree.eval (E.round l args A K) = some R → ∃ v A', Ev (fun m => (cs m).round l args A = some (v, A')) ∧ Tree.eval (K v A') = some R
theorem want_none {o : Oper} (hg : o.guard = none) (y : Nat → Option Bool) : Region.wanted o y = true := by simp [Region.wanted, hg]
theorem evalOp_guard {P : Program} {call : Calls2} {ops : Array Oper} {o : Oper} {fr : Fr} {A : AS} (hw : Region.wanted o (yieldedA ops fr) = true) : evalOp P call ops o fr A = evalOp P call ops { o with guard := none } fr A := by
  have hw' : Region.wanted { o with guard := none } (yieldedA ops fr) = true := want_none rfl _
  have hok : opOk { o with guard := none } = opOk o := rfl
  have hx : aExec P (ev fr) { o with guard := none } A = aExec P (ev fr) o A := rfl
  unfold evalOp
  rw [hw, hw', hok, hx]
noncomputable def qinfo (P : Program) (t : TypeId) : Option TypeInfo := nthO P.types.toList t
theorem qinfo_ok {P : Program} {t : TypeId} {i : TypeInfo} (h : qinfo P t = some i) : P.info? t = some i := by
  rw [qinfo, nthO_eq] at h
  have h' : P.types[t]? = some i := by rw [← h]; simp
  have hlt : t < P.types.size := (Array.getElem?_eq_some_iff.1 h').1
  unfold Tables.info?
  rw [if_pos hlt]; exact h'
noncomputable def qunder (P : Program) (t : TypeId) : Option TypeDesc := match qinfo P t with
  | some i => match i.desc with
    | .named _ u => match qinfo P u with
      | some j => some j.desc
      | none => none
    | d => some d
  | none => none
theorem qunder_ok {P : Program} {t : TypeId} {d : TypeDesc} (h : qunder P t = some d) : P.underlying t = some d := by
  unfold qunder at h
  split at h
  · rename_i i hi
    have h1 := qinfo_ok hi
    unfold Program.underlying
    obtain ⟨desc, a, b, c, e, f, g, i1, i2, i3⟩ := i
    simp only at h
    split at h
    · rename_i n u
      split at h
      · rename_i j hj
        rw [h1]
        simp only [qinfo_ok hj, Option.map_some]
        exact h
      · cases h
    · rename_i hn
      rw [h1]
      simp only [Option.some.injEq] at h
      subst h
      cases desc <;> first | rfl | exact absurd rfl (hn _ _)
  · cases h
noncomputable def qSize (P : Program) (t : TypeId) : Option Nat := match qinfo P t with
  | some i => some i.size
  | none => none
theorem qSize_ok {P : Program} {t : TypeId} {n : Nat} (h : qSize P t = some n) : tSize P t = some n := by
  unfold qSize at h
  split at h
  · rename_i i hi
    simp only [tSize, qinfo_ok hi]; exact h
  · cases h
noncomputable def qkLoad (P : Program) (t : TypeId) : Option (Option Nat) := match qunder P t with
  | some d => match descAgg d with
    | true => match qSize P t with
      | some n => some (some n)
      | none => none
    | false => some none
  | none => none
theorem qkLoad_ok {P : Program} {t : TypeId} {n : Option Nat} (h : qkLoad P t = some n) : kLoad P t = some n := by
  unfold qkLoad at h
  split at h
  · rename_i d hd
    unfold kLoad
    simp only [tAgg, qunder_ok hd]
    split at h
    · rename_i ha
      split at h
      · rename_i m hm
        simp only [ha, qSize_ok hm]; exact h
      · cases h
    · rename_i ha
      simp only [ha]; exact h
  · cases h
noncomputable def qkIdx (P : Program) (t : TypeId) : Option (Bool × Nat × Nat) := match qunder P t with
  | some (.slice el) => match qSize P el with
    | some z => some (true, 0, z)
    | none => none
  | some (.array len el) => match qSize P el with
    | some z => some (false, len, z)
    | none => none
  | _ => none
theorem qkIdx_ok {P : Program} {t : TypeId} {r : Bool × Nat × Nat} (h : qkIdx P t = some r) : kIdx P t = some r := by
  unfold qkIdx at h
  unfold kIdx
  split at h
  · rename_i el hu
    split at h
    · rename_i z hz
      simp only [qunder_ok hu, qSize_ok hz]; exact h
    · cases h
  · rename_i len el hu
    split at h
    · rename_i z hz
      simp only [qunder_ok hu, qSize_ok hz]; exact h
    · cases h
  · cases h
noncomputable def qkField (P : Program) (s : TypeId) (k : Nat) : Option Nat := match qunder P s with
  | some (.struct fields) => match nthO fields.toList k with
    | some f => match qSize P f.type with
      | some n => match Nat.beq n 0 with
        | true => none
        | false => some f.offset
      | none => none
    | none => none
  | _ => none
theorem qkField_ok {P : Program} {s : TypeId} {k off : Nat} (h : qkField P s k = some off) : kField P s k = some off := by
  unfold qkField at h
  unfold kField
  split at h
  · rename_i fields hu
    split at h
    · rename_i f hf
      rw [nthO_eq] at hf
      have hf : fields[k]? = some f := by rw [← hf]; simp
      split at h
      · rename_i n hn
        split at h
        · cases h
        · rename_i hz
          simp only [qunder_ok hu, hf, qSize_ok hn, hz]
          exact h
      · cases h
    · cases h
  · cases h
noncomputable def qIsStr (P : Program) (t : TypeId) : Bool := match qunder P t with
  | some .string => true
  | _ => false
theorem qIsStr_ok {P : Program} {t : TypeId} (h : qIsStr P t = true) : isStr P t = true := by
  unfold qIsStr at h
  split at h
  · rename_i hu
    simp only [isStr, qunder_ok hu]
  · cases h
noncomputable def qkSlice (P : Program) (t : TypeId) : Option Nat := match qunder P t with
  | some (.slice el) => qSize P el
  | _ => none
theorem qkSlice_ok {P : Program} {t : TypeId} {z : Nat} (h : qkSlice P t = some z) : kSlice P t = some z := by
  unfold qkSlice at h
  split at h
  · rename_i el hu
    simp only [kSlice, qunder_ok hu]; exact qSize_ok h
  · cases h
noncomputable def qkLen (P : Program) (ts : Array TypeId) : Option LenOf := match nthO ts.toList 0 with
  | some t => match qunder P t with
    | some (.slice _) => some .slice
    | some .string => some .string
    | _ => none
  | none => none
theorem qkLen_ok {P : Program} {ts : Array TypeId} {k : LenOf} (h : qkLen P ts = some k) : kLen P ts = some k := by
  unfold qkLen at h
  split at h
  · rename_i t ht
    rw [nthO_eq] at ht
    have ht : ts[0]? = some t := by rw [← ht]; simp
    unfold kLen
    simp only [ht]
    split at h
    · rename_i el hu
      simp only [qunder_ok hu]; exact h
    · rename_i hu
      simp only [qunder_ok hu]; exact h
    · cases h
  · cases h
noncomputable def qkStore (P : Program) (t : TypeId) : Bool := match qSize P t with
  | some n => Nat.beq n 1
  | none => false
theorem qkStore_ok {P : Program} {t : TypeId} (h : qkStore P t = true) : kStore P t = true := by
  unfold qkStore at h
  split at h
  · rename_i n hn
    simp only [kStore, qSize_ok hn]; exact h
  · cases h
noncomputable def qkAlloc (P : Program) (t : TypeId) : Option (List Value) := match qinfo P t with
  | some i => match i.zero with
    | some z => match flat z with
      | true => some z.cells.toList
      | false => none
    | none => none
  | none => none
theorem qkAlloc_ok {P : Program} {t : TypeId} {cs : List Value} (h : qkAlloc P t = some cs) : kAlloc P t = some cs := by
  unfold qkAlloc at h
  split at h
  · rename_i i hi
    split at h
    · rename_i z hz
      split at h
      · rename_i hf
        have : tZero P t = some z := by simp only [tZero, qinfo_ok hi]; exact hz
        simp only [kAlloc, this, hf, if_true]; exact h
      · cases h
    · cases h
  · cases h
section
variable {F : Type} (P : Program) (O : FO F) (N : Nat) (fid : FuncId) (rd : Bool) (call : Nat → Calls2) (ops : Array Oper)
def OpOk (o : Oper) (κ : KO' F) : Prop := ∀ E, EOk E call → ∀ t fr A k R, FRel O N fid rd t fr → Tree.eval (κ.f E k t A) = some R →
  ∃ fr' A' t', Ev (fun m => evalOp P (call m) ops o fr A = some (fr', A')) ∧ FRel O N fid rd t' fr' ∧ Tree.eval (k t' A') = some R
noncomputable def kfail (n : Nat) : KO' F := ⟨fun _ _ _ _ => failAt n⟩
noncomputable def wG (x : Operand) (c : (F → Value) → KO' F) : KO' F := Gtt.rec (motive := fun _ => ((F → Value) → KO' F) → KO' F) (fun g c => c g) (ob O x) c
noncomputable def wGo (x : Option Operand) (c : (F → Option Value) → KO' F) : KO' F :=
  Option.rec (motive := fun _ => ((F → Option Value) → KO' F) → KO' F) (fun c => c (fun _ => none)) (fun x c => wG O x (fun g => c (fun t => some (g t)))) x c
noncomputable def wS (d : Option Tmp) (c : (Value → F → F) → KO' F) : KO' F :=
  Option.rec (motive := fun _ => ((Value → F → F) → KO' F) → KO' F) (fun _ => kfail 51) (fun s c => Stt.rec (motive := fun _ => ((Value → F → F) → KO' F) → KO' F) (fun s c => c s) s c) (stOf O N d) c
noncomputable def qRun (E : KE) (r : Option (ANext × AS)) (c : Value → AS → Ans) : Ans :=
  .opt r (fun r => Prod.rec (motive := fun _ => Ans)
    (fun nx A => ANext.rec (motive := fun _ => AS → KE → (Value → AS → Ans) → Ans) (fun v A _ c => c v A) (fun A _ c => c undef A) (fun f args A E c => E.call f args A c) (fun _ _ _ _ => failAt 53) (fun l args A E c => E.round l args A c) nx A E c) r)
noncomputable def kGen (o : Oper) : KO' F := wS O N o.dst (fun s => ⟨fun E k t A => qRun E (aExec P (fun x => (ob O x).f t) o A) (fun v A => k (s v t) A)⟩)
noncomputable def kMove (o : Oper) (x : Operand) : KO' F := wS O N o.dst (fun s => wG O x (fun g => ⟨fun _ k t A => qForce (g t) (fun v => k (s v t) A)⟩))
noncomputable def kVal1 (o : Oper) (q : Value → (Value → Ans) → Ans) (x : Operand) : KO' F := wS O N o.dst (fun s => wG O x (fun g => ⟨fun _ k t A => q (g t) (fun v => k (s v t) A)⟩))
noncomputable def kVal2 (o : Oper) (q : Value → Value → (Value → Ans) → Ans) (x y : Operand) : KO' F :=
  wS O N o.dst (fun s => wG O x (fun g => wG O y (fun h => ⟨fun _ k t A => q (g t) (h t) (fun v => k (s v t) A)⟩)))
noncomputable def kVal3 (o : Oper) (q : Value → Value → Value → (Value → Ans) → Ans) (x y z : Operand) : KO' F :=
  wS O N o.dst (fun s => wG O x (fun g => wG O y (fun h => wG O z (fun i => ⟨fun _ k t A => q (g t) (h t) (i t) (fun v => k (s v t) A)⟩))))
noncomputable def kValA (o : Oper) (q : AS → Value → (Value → Ans) → Ans) (x : Operand) : KO' F := wS O N o.dst (fun s => wG O x (fun g => ⟨fun _ k t A => q A (g t) (fun v => k (s v t) A)⟩))
noncomputable def kCutS (o : Oper) (z : Nat) (x : Operand) (lo hi : Option Operand) : KO' F :=
  wS O N o.dst (fun s => wG O x (fun g => wGo O lo (fun h => wGo O hi (fun i => ⟨fun E k t A => qSli z (g t) (h t) (i t) (qRun E (aExec P (fun x => (ob O x).f t) o A) (fun v A => k (s v t) A)) (fun v => k (s v t) A)⟩))))
noncomputable def kCut (o : Oper) (q : Value → Option Value → Option Value → (Value → Ans) → Ans) (x : Operand) (lo hi : Option Operand) : KO' F :=
  wS O N o.dst (fun s => wG O x (fun g => wGo O lo (fun h => wGo O hi (fun i => ⟨fun _ k t A => q (g t) (h t) (i t) (fun v => k (s v t) A)⟩))))
noncomputable def kStoreOp (o : Oper) (a x : Operand) : KO' F := wS O N o.dst (fun s => wG O a (fun g => wG O x (fun h => ⟨fun _ k t A => qStore A (g t) (h t) (fun A => k (s undef t) A)⟩)))
noncomputable def kAllocOp (o : Oper) (cs : List Value) : KO' F := wS O N o.dst (fun s => ⟨fun _ k t A => qNew A cs (fun v A => k (s v t) A)⟩)
noncomputable def kBoxOp (o : Oper) (x : Operand) : KO' F := wS O N o.dst (fun s => wG O x (fun g => ⟨fun _ k t A => qCellsV (g t) (fun cs => qNew A cs (fun v A => k (s v t) A))⟩))
structure Gts (F : Type) where
  f : F → List Value
noncomputable def obs (xs : List Operand) : Gts F :=
  List.rec (motive := fun _ => Gts F) ⟨fun _ => []⟩ (fun x _ ih => Gtt.rec (motive := fun _ => Gts F → Gts F) (fun g r => Gts.rec (motive := fun _ => Gts F) (fun r => ⟨fun t => g t :: r t⟩) r) (ob O x) ih) xs
theorem obs_f (t : F) : ∀ (xs : List Operand), (obs O xs).f t = xs.map fun x => (ob O x).f t
  | [] => rfl
  | x :: xs => by
    have e : obs O (x :: xs) = Gtt.rec (motive := fun _ => Gts F → Gts F) (fun g r => Gts.rec (motive := fun _ => Gts F) (fun r => ⟨fun t => g t :: r t⟩) r) (ob O x) (obs O xs) := rfl
    have ih := obs_f t xs
    rw [e]
    rw [List.map_cons, ← ih]
noncomputable def kCallOp (o : Oper) (f : FuncId) (xs : List Operand) : KO' F :=
  wS O N o.dst (fun s => Gts.rec (motive := fun _ => KO' F) (fun g => ⟨fun E k t A => E.call f (g t) A (fun v A => k (s v t) A)⟩) (obs O xs))
noncomputable def kStoreN (o : Oper) (n : Nat) (a x : Operand) : KO' F := wS O N o.dst (fun s => wG O a (fun g => wG O x (fun h => ⟨fun _ k t A => qStoreN n A (g t) (h t) (fun A => k (s undef t) A)⟩)))
noncomputable def qEqP (P : Program) (t : TypeId) (neg : Bool) (x y : Value) (c : Value → Ans) : Ans :=
  Option.rec (motive := fun _ => (Value → Ans) → Ans) (fun _ => failAt 46) (fun b c => c (.bool (Bool.rec (motive := fun _ => Bool) b (Bool.not b) neg))) (fEqP P t x y) c
noncomputable def qPlace (d : TypeDesc) (i : Nat) : Option (Nat × Nat) := match d with
  | .struct fields => match nthO fields.toList i with
    | some f => match qSize P f.type with
      | some n => some (f.offset, n)
      | none => none
    | none => none
  | .array _ el => match qSize P el with
    | some n => some (Nat.mul i n, n)
    | none => none
  | _ => none
noncomputable def qAllSized (fs : List Field) : Bool := List.rec (motive := fun _ => Bool) true (fun f _ ih => match qinfo P f.type with
  | some _ => ih
  | none => false) fs
noncomputable def qPlaced (d : TypeDesc) : Bool := match d with
  | .struct fields => qAllSized P fields.toList
  | .array _ el => match qSize P el with
    | some _ => true
    | none => false
  | _ => false
structure KP (F : Type) where
  f : F → List Value → (List Value → Ans) → Ans
noncomputable def kparts (pl : Nat → Option (Nat × Nat)) (ps : List (Nat × Operand)) : KP F :=
  List.rec (motive := fun _ => KP F) ⟨fun _ cs c => c cs⟩ (fun p _ ih => Option.rec (motive := fun _ => KP F) ⟨fun _ _ _ => failAt 154⟩
    (fun w => Prod.rec (motive := fun _ => KP F) (fun off n => Gtt.rec (motive := fun _ => KP F) (fun g => KP.rec (motive := fun _ => KP F)
      (fun r => ⟨fun t cs c => qCellsV (g t) (fun vs => qIf (Nat.beq (llen vs) n) (qSpl off vs cs (fun cs => r t cs c)) (failAt 155))⟩) ih) (ob O p.2)) w) (pl p.1)) ps
noncomputable def kBuild (o : Oper) (z : List Value) (pl : Nat → Option (Nat × Nat)) (ps : List (Nat × Operand)) : KO' F :=
  wS O N o.dst (fun s => KP.rec (motive := fun _ => KO' F) (fun r => ⟨fun _ k t A => r t z (fun cs => k (s (.agg ⟨cs⟩) t) A)⟩) (kparts O pl ps))
noncomputable def kBuildS (o : Oper) (z : List Value) (size len : Nat) (ps : List (Nat × Operand)) : KO' F :=
  wS O N o.dst (fun s => KP.rec (motive := fun _ => KO' F) (fun r => ⟨fun _ k t A => r t z (fun cs => qNewS A cs size len (fun v A => k (s v t) A))⟩) (kparts O (fun i => some (Nat.mul i size, size)) ps))
noncomputable def kMakeF (o : Oper) (f : FuncId) (xs us : List Operand) : KO' F :=
  wS O N o.dst (fun s => Gts.rec (motive := fun _ => KO' F) (fun g => Gts.rec (motive := fun _ => KO' F) (fun h => ⟨fun _ k t A => k (s (.func (.func f) ⟨g t⟩ ⟨h t⟩) t) A⟩) (obs O us)) (obs O xs))
noncomputable def qZero (t : TypeId) : Option (List Value) := match qinfo P t with
  | some i => match i.zero with
    | some z => match flat z with
      | true => some z.cells.toList
      | false => none
    | none => none
  | none => none
noncomputable def qDefer (r : Option (ANext × AS)) (c : Deferred → AS → Ans) : Ans := match r with
  | some (.defer d, A) => c d A
  | _ => failAt 59
noncomputable def kDefer (o : Oper) : KO' F := match O.tr with
  | none => kfail 49
  | some r => wS O N o.dst (fun s => ⟨fun _ k t A => qDefer (aExec P (fun x => (ob O x).f t) o A) (fun d A => qIf (Bool.not (r.rd t)) (k (s undef (r.push d t)) A) (failAt 48))⟩)
noncomputable def kop1 (o : Oper) : KO' F := match o.op with
  | .move x => kMove O N o x
  | .assign x => kMove O N o x
  | .pick c a b => kVal3 O N o qPick c a b
  | .binOp op t x y _ => match qunder P t with
    | some (.int .i64) => match op with
      | .add => kVal2 O N o qAdd64 x y
      | .sub => kVal2 O N o qSub64 x y
      | .mul => kVal2 O N o qMul64 x y
      | .eql => kVal2 O N o qEq64 x y
      | .neq => kVal2 O N o qNe64 x y
      | .lss => kVal2 O N o qLt64 x y
      | .leq => kVal2 O N o qLe64 x y
      | .gtr => kVal2 O N o qGt64 x y
      | .geq => kVal2 O N o qGe64 x y
      | _ => kGen P O N o
    | some (.int _) => match op with
      | .add => kVal2 O N o (qAr .add) x y
      | .sub => kVal2 O N o (qAr .sub) x y
      | .mul => kVal2 O N o (qAr .mul) x y
      | .eql => kVal2 O N o (qCm .eql) x y
      | .neq => kVal2 O N o (qCm .neq) x y
      | .lss => kVal2 O N o (qCm .lss) x y
      | .leq => kVal2 O N o (qCm .leq) x y
      | .gtr => kVal2 O N o (qCm .gtr) x y
      | .geq => kVal2 O N o (qCm .geq) x y
      | _ => kGen P O N o
    | some .string => match op with
      | .eql => kVal2 O N o qStEq x y
      | .neq => kVal2 O N o qStNe x y
      | _ => kGen P O N o
    | some (.struct _) => match eqPlain P t with
      | true => match op with
        | .eql => kVal2 O N o (qEqP P t false) x y
        | .neq => kVal2 O N o (qEqP P t true) x y
        | _ => kGen P O N o
      | false => kGen P O N o
    | some (.array _ _) => match eqPlain P t with
      | true => match op with
        | .eql => kVal2 O N o (qEqP P t false) x y
        | .neq => kVal2 O N o (qEqP P t true) x y
        | _ => kGen P O N o
      | false => kGen P O N o
    | _ => kGen P O N o
  | .unOp op _ x => match op with
    | .not => kVal1 O N o qNot x
    | _ => kGen P O N o
  | .extract x i => kVal1 O N o (fun x c => qExt x i c) x
  | .load t x => match qkLoad P t with
    | some n => kValA O N o (qLoad n) x
    | none => kGen P O N o
  | .indexAddr t x i => match qkIdx P t with
    | some (true, _, z) => kVal2 O N o (qIdxS z) x i
    | some (false, n, z) => kVal2 O N o (qIdxA n z) x i
    | none => kGen P O N o
  | .fieldAddr s x k => match qkField P s k with
    | some off => kVal1 O N o (qField off) x
    | none => kGen P O N o
  | .nilCheck x => kVal1 O N o qNil x
  | .slice t x lo hi none => match qIsStr P t with
    | true => kCut O N o qSlStr x lo hi
    | false => match qkSlice P t with
      | some z => kCutS P O N o z x lo hi
      | none => kGen P O N o
  | .index t x i => match qIsStr P t with
    | true => kVal2 O N o qByte x i
    | false => kGen P O N o
  | .store t a x => match qSize P t with
    | some n => match Nat.beq n 1 with
      | true => match qkStore P t with
        | true => kStoreOp O N o a x
        | false => kfail 47
      | false => kStoreN O N o n a x
    | none => kGen P O N o
  | .convert s d x => match qunder P s with
    | some _ => match qunder P d with
      | some (.int k) => kVal1 O N o (qConv k) x
      | _ => kGen P O N o
    | none => kGen P O N o
  | .build t ps => match qunder P t with
    | some d => match qPlaced P d with
      | true => match qZero P t with
        | some z => kBuild O N o z (qPlace P d) ps.toList
        | none => kGen P O N o
      | false => kGen P O N o
    | none => kGen P O N o
  | .buildSlice t len ps => match qunder P t with
    | some (.slice el) => match qinfo P el with
      | some i => match i.zero with
        | some z => match flat z with
          | true => match Nat.ble (len * i.size) 16777216 with
            | true => kBuildS O N o (pattern z.cells (len * i.size)) i.size len ps.toList
            | false => kGen P O N o
          | false => kGen P O N o
        | none => kGen P O N o
      | none => kGen P O N o
    | _ => kGen P O N o
  | .makeFunc (.func f) xs us => kMakeF O N o f xs.toList us.toList
  | .alloc t => match qkAlloc P t with
    | some cs => kAllocOp O N o cs
    | none => kGen P O N o
  | .box _ x => kBoxOp O N o x
  | .call c => match c.callee with
    | .builtin b => match b with
      | .len => match c.args with
        | ⟨[x]⟩ => match qkLen P c.argTypes with
          | some k => kVal1 O N o (qLen k) x
          | none => kGen P O N o
        | _ => kGen P O N o
      | .min => match c.args with
        | ⟨[x, y]⟩ => kVal2 O N o qMin x y
        | _ => kGen P O N o
      | .max => match c.args with
        | ⟨[x, y]⟩ => kVal2 O N o qMax x y
        | _ => kGen P O N o
      | _ => kGen P O N o
    | .value (.func f) => match qHasBody P f with
      | true => kCallOp O N o f c.args.toList
      | false => kfail 55
    | _ => kGen P O N o
  | .defer _ => kDefer P O N o
  | _ => kGen P O N o
 where
  qHasBody (P : Program) (f : FuncId) : Bool := match nthO P.funcs.toList f with
    | some fn => fn.body.isSome && fn.name != "runtime.NumGoroutine"
    | none => false
end
section
variable {F : Type}
noncomputable def jGen (P : Program) (O : FO F) (N : Nat) (o : Oper) : KO' F := kGen P O N o
noncomputable def jMove (x : Operand) (_ : Program) (O : FO F) (N : Nat) (o : Oper) : KO' F := kMove O N o x
noncomputable def jPick (c a b : Operand) (_ : Program) (O : FO F) (N : Nat) (o : Oper) : KO' F := kVal3 O N o qPick c a b
noncomputable def jBin (op : BinOp) (t : TypeId) (x y : Operand) (P : Program) (O : FO F) (N : Nat) (o : Oper) : KO' F := match qunder P t with
  | some (.int .i64) => match op with
    | .add => kVal2 O N o qAdd64 x y
    | .sub => kVal2 O N o qSub64 x y
    | .mul => kVal2 O N o qMul64 x y
    | .eql => kVal2 O N o qEq64 x y
    | .neq => kVal2 O N o qNe64 x y
    | .lss => kVal2 O N o qLt64 x y
    | .leq => kVal2 O N o qLe64 x y
    | .gtr => kVal2 O N o qGt64 x y
    | .geq => kVal2 O N o qGe64 x y
    | _ => kGen P O N o
  | some (.int _) => match op with
    | .add => kVal2 O N o (qAr .add) x y
    | .sub => kVal2 O N o (qAr .sub) x y
    | .mul => kVal2 O N o (qAr .mul) x y
    | .eql => kVal2 O N o (qCm .eql) x y
    | .neq => kVal2 O N o (qCm .neq) x y
    | .lss => kVal2 O N o (qCm .lss) x y
    | .leq => kVal2 O N o (qCm .leq) x y
    | .gtr => kVal2 O N o (qCm .gtr) x y
    | .geq => kVal2 O N o (qCm .geq) x y
    | _ => kGen P O N o
  | some .string => match op with
    | .eql => kVal2 O N o qStEq x y
    | .neq => kVal2 O N o qStNe x y
    | _ => kGen P O N o
  | some (.struct _) => match eqPlain P t with
    | true => match op with
      | .eql => kVal2 O N o (qEqP P t false) x y
      | .neq => kVal2 O N o (qEqP P t true) x y
      | _ => kGen P O N o
    | false => kGen P O N o
  | some (.array _ _) => match eqPlain P t with
    | true => match op with
      | .eql => kVal2 O N o (qEqP P t false) x y
      | .neq => kVal2 O N o (qEqP P t true) x y
      | _ => kGen P O N o
    | false => kGen P O N o
  | _ => kGen P O N o
noncomputable def jUn (op : UnOp) (x : Operand) (P : Program) (O : FO F) (N : Nat) (o : Oper) : KO' F := match op with
  | .not => kVal1 O N o qNot x
  | _ => kGen P O N o
noncomputable def jExt (x : Operand) (i : Nat) (_ : Program) (O : FO F) (N : Nat) (o : Oper) : KO' F := kVal1 O N o (fun x c => qExt x i c) x
noncomputable def jLoad (t : TypeId) (x : Operand) (P : Program) (O : FO F) (N : Nat) (o : Oper) : KO' F := match qkLoad P t with
  | some n => kValA O N o (qLoad n) x
  | none => kGen P O N o
noncomputable def jIdxA (t : TypeId) (x i : Operand) (P : Program) (O : FO F) (N : Nat) (o : Oper) : KO' F := match qkIdx P t with
  | some (true, _, z) => kVal2 O N o (qIdxS z) x i
  | some (false, n, z) => kVal2 O N o (qIdxA n z) x i
  | none => kGen P O N o
noncomputable def jFieldA (s : TypeId) (x : Operand) (k : Nat) (P : Program) (O : FO F) (N : Nat) (o : Oper) : KO' F := match qkField P s k with
  | some off => kVal1 O N o (qField off) x
  | none => kGen P O N o
noncomputable def jNil (x : Operand) (_ : Program) (O : FO F) (N : Nat) (o : Oper) : KO' F := kVal1 O N o qNil x
noncomputable def jSlice (t : TypeId) (x : Operand) (lo hi mx : Option Operand) (P : Program) (O : FO F) (N : Nat) (o : Oper) : KO' F := match mx with
  | none => match qIsStr P t with
    | true => kCut O N o qSlStr x lo hi
    | false => match qkSlice P t with
      | some z => kCutS P O N o z x lo hi
      | none => kGen P O N o
  | some _ => kGen P O N o
noncomputable def jIndex (t : TypeId) (x i : Operand) (P : Program) (O : FO F) (N : Nat) (o : Oper) : KO' F := match qIsStr P t with
  | true => kVal2 O N o qByte x i
  | false => kGen P O N o
noncomputable def jStore (t : TypeId) (a x : Operand) (P : Program) (O : FO F) (N : Nat) (o : Oper) : KO' F := match qSize P t with
  | some n => match Nat.beq n 1 with
    | true => match qkStore P t with
      | true => kStoreOp O N o a x
      | false => kfail 47
    | false => kStoreN O N o n a x
  | none => kGen P O N o
noncomputable def jConv (s d : TypeId) (x : Operand) (P : Program) (O : FO F) (N : Nat) (o : Oper) : KO' F := match qunder P s with
  | some _ => match qunder P d with
    | some (.int k) => kVal1 O N o (qConv k) x
    | _ => kGen P O N o
  | none => kGen P O N o
noncomputable def jBuild (t : TypeId) (ps : Array (Nat × Operand)) (P : Program) (O : FO F) (N : Nat) (o : Oper) : KO' F := match qunder P t with
  | some d => match qPlaced P d with
    | true => match qZero P t with
      | some z => kBuild O N o z (qPlace P d) ps.toList
      | none => kGen P O N o
    | false => kGen P O N o
  | none => kGen P O N o
noncomputable def jBuildS (t : TypeId) (len : Nat) (ps : Array (Nat × Operand)) (P : Program) (O : FO F) (N : Nat) (o : Oper) : KO' F := match qunder P t with
  | some (.slice el) => match qinfo P el with
    | some i => match i.zero with
      | some z => match flat z with
        | true => match Nat.ble (len * i.size) 16777216 with
          | true => kBuildS O N o (pattern z.cells (len * i.size)) i.size len ps.toList
          | false => kGen P O N o
        | false => kGen P O N o
      | none => kGen P O N o
    | none => kGen P O N o
  | _ => kGen P O N o
noncomputable def jMakeF (fn : Fn) (xs us : Array Operand) (P : Program) (O : FO F) (N : Nat) (o : Oper) : KO' F := match fn with
  | .func f => kMakeF O N o f xs.toList us.toList
  | _ => kGen P O N o
noncomputable def jAlloc (t : TypeId) (P : Program) (O : FO F) (N : Nat) (o : Oper) : KO' F := match qkAlloc P t with
  | some cs => kAllocOp O N o cs
  | none => kGen P O N o
noncomputable def jBox (x : Operand) (_ : Program) (O : FO F) (N : Nat) (o : Oper) : KO' F := kBoxOp O N o x
noncomputable def jCall (c : Call) (P : Program) (O : FO F) (N : Nat) (o : Oper) : KO' F := match c.callee with
  | .builtin b => match b with
    | .len => match c.args with
      | ⟨[x]⟩ => match qkLen P c.argTypes with
        | some k => kVal1 O N o (qLen k) x
        | none => kGen P O N o
      | _ => kGen P O N o
    | .min => match c.args with
      | ⟨[x, y]⟩ => kVal2 O N o qMin x y
      | _ => kGen P O N o
    | .max => match c.args with
      | ⟨[x, y]⟩ => kVal2 O N o qMax x y
      | _ => kGen P O N o
    | _ => kGen P O N o
  | .value (.func f) => match kop1.qHasBody P f with
    | true => kCallOp O N o f c.args.toList
    | false => kfail 55
  | _ => kGen P O N o
noncomputable def jDefer (P : Program) (O : FO F) (N : Nat) (o : Oper) : KO' F := kDefer P O N o
noncomputable def jop (P : Program) (O : FO F) (N : Nat) (o : Oper) : KO' F :=
  @Op.rec (fun _ => Program → FO F → Nat → Oper → KO' F)
    (fun x => jMove x)
    (fun x => jMove x)
    (fun c a b => jPick c a b)
    (fun t => jAlloc t)
    (fun t x => jBox x)
    (fun t ps => jBuild t ps)
    (fun t len ps => jBuildS t len ps)
    (fun _ _ _ _ => jGen)
    (fun t x => jLoad t x)
    (fun t a x => jStore t a x)
    (fun _ => jGen)
    (fun _ => jGen)
    (fun x => jNil x)
    (fun op t x y yt => jBin op t x y)
    (fun op t x => jUn op x)
    (fun s d x => jConv s d x)
    (fun _ _ => jGen)
    (fun _ _ => jGen)
    (fun fn xs us => jMakeF fn xs us)
    (fun _ _ => jGen)
    (fun _ _ => jGen)
    (fun _ _ _ => jGen)
    (fun t x lo hi mx => jSlice t x lo hi mx)
    (fun s x k => jFieldA s x k)
    (fun _ _ _ => jGen)
    (fun t x i => jIdxA t x i)
    (fun t x i => jIndex t x i)
    (fun _ _ _ _ => jGen)
    (fun _ _ _ _ => jGen)
    (fun _ _ _ => jGen)
    (fun _ _ _ _ => jGen)
    (fun _ _ => jGen)
    (fun _ _ => jGen)
    (fun _ => jGen)
    (fun _ _ _ _ => jGen)
    (fun x i => jExt x i)
    (fun c => jCall c)
    (fun _ => jGen)
    (fun c => jDefer)
    (fun _ => jGen)
    (fun _ _ => jGen)
    (fun _ _ _ => jGen)
    (fun _ _ => jGen) o.op P O N o
theorem jop_eq (P : Program) (O : FO F) (N : Nat) (o : Oper) : jop P O N o = kop1 P O N o := by
  obtain ⟨dst, op, type, pos, after, guard⟩ := o
  cases op with
  | slice t x lo hi mx => cases mx <;> rfl
  | makeFunc fn xs us => cases fn <;> rfl
  | call c => obtain ⟨callee, args, ts⟩ := c; cases callee with
    | builtin b => cases b <;> rfl
    | value f => cases f <;> rfl
    | invoke a b => rfl
  | _ => rfl
noncomputable def jCallOps (c : Call) : List Operand := match c.callee with
  | .value f => f :: c.args.toList
  | .invoke r _ => r :: c.args.toList
  | .builtin _ => c.args.toList
noncomputable def jops (op : Op) : List Operand :=
  @Op.rec (fun _ => List Operand)
    (fun x => [x])
    (fun x => [x])
    (fun c a b => [c, a, b])
    (fun _ => [])
    (fun t x => [x])
    (fun t ps => ps.toList.map (·.2))
    (fun t len ps => ps.toList.map (·.2))
    (fun t m k x => [m, k, x])
    (fun t x => [x])
    (fun t a x => [a, x])
    (fun _ => [])
    (fun _ => [])
    (fun x => [x])
    (fun op t x y yt => [x, y])
    (fun op t x => [x])
    (fun s d x => [x])
    (fun d x => [x])
    (fun t x => [x])
    (fun fn xs us => xs.toList ++ us.toList)
    (fun t r => r.toList)
    (fun t x => [x])
    (fun t l c => [l, c])
    (fun t x lo hi mx => x :: (lo.toList ++ (hi.toList ++ mx.toList)))
    (fun s x k => [x])
    (fun s x k => [x])
    (fun t x i => [x, i])
    (fun t x i => [x, i])
    (fun t x i ok => [x, i])
    (fun t m k x => [m, k, x])
    (fun t m k => [m, k])
    (fun t m s x => [m, s, x])
    (fun t x => [x])
    (fun x s => [x])
    (fun x => [x])
    (fun x t u ok => [x])
    (fun x i => [x])
    (fun c => jCallOps c)
    (fun c => jCallOps c)
    (fun c => jCallOps c)
    (fun x => [x])
    (fun c x => [c, x])
    (fun t c ok => [c])
    (fun cs b => (Op.operands (.select cs b)).toList) op
theorem jops_eq (op : Op) : jops op = op.operands.toList := by
  cases op with
  | build t ps => simp [jops, Op.operands]
  | buildSlice t n ps => simp [jops, Op.operands]
  | slice t x lo hi mx => cases lo <;> cases hi <;> cases mx <;> rfl
  | makeMap t r => cases r <;> rfl
  | makeFunc fn xs us => simp [jops, Op.operands]
  | call c => obtain ⟨callee, args, ts⟩ := c; cases callee <;> simp [jops, jCallOps, Op.operands, Call.operands]
  | go c => obtain ⟨callee, args, ts⟩ := c; cases callee <;> simp [jops, jCallOps, Op.operands, Call.operands]
  | defer c => obtain ⟨callee, args, ts⟩ := c; cases callee <;> simp [jops, jCallOps, Op.operands, Call.operands]
  | _ => rfl
noncomputable def qFlat (v : Value) : Bool :=
  @Value.rec (fun _ => Value → Bool) (fun _ => Unit) (fun _ => Unit) (fun _ _ => true) (fun _ _ _ => true) (fun _ _ v => flat v) (fun _ _ _ v => flat v) (fun _ _ => true) (fun _ v => flat v) (fun _ _ _ v => flat v) (fun _ v => flat v) (fun _ v => flat v)
    (fun _ _ _ _ _ v => flat v) (fun v => flat v) (fun _ _ _ v => flat v) (fun v => flat v) (fun _ _ v => flat v) (fun _ _ v => flat v) (fun _ _ => ()) () (fun _ _ _ _ => ()) v v
theorem qFlat_eq (v : Value) : qFlat v = flat v := by cases v <;> rfl
noncomputable def jopOk (op : Op) : Bool := List.rec (motive := fun _ => Bool) true (fun x _ ih => Bool.rec (motive := fun _ => Bool) false ih (Operand.rec (motive := fun _ => Bool) (fun _ => true) (fun v => qFlat v) (fun g => Nat.ble (Nat.succ g) nGlob) (fun _ => true) x)) (jops op)
theorem jopOk_eq (o : Oper) : jopOk o.op = opOk o := by
  have key : ∀ (l : List Operand), (List.rec (motive := fun _ => Bool) true (fun x _ ih => Bool.rec (motive := fun _ => Bool) false ih (Operand.rec (motive := fun _ => Bool) (fun _ => true) (fun v => qFlat v) (fun g => Nat.ble (Nat.succ g) nGlob) (fun _ => true) x)) l : Bool) = l.all opndOk := by
    intro l
    induction l with
    | nil => rfl
    | cons x l ih =>
      rw [List.all_cons, ← ih]
      have : (Operand.rec (motive := fun _ => Bool) (fun _ => true) (fun v => qFlat v) (fun g => Nat.ble (Nat.succ g) nGlob) (fun _ => true) x : Bool) = opndOk x := by
        cases x with
        | const v => exact qFlat_eq v
        | _ => rfl
      show Bool.rec (motive := fun _ => Bool) false _ (Operand.rec (motive := fun _ => Bool) (fun _ => true) (fun v => qFlat v) (fun g => Nat.ble (Nat.succ g) nGlob) (fun _ => true) x : Bool) = _
      rw [this]
      cases opndOk x <;> rfl
  unfold jopOk opOk
  rw [key, jops_eq, Array.all_toList]
end
section
variable {F : Type} (P : Program) (O : FO F) (N : Nat) (fid : FuncId) (rd : Bool) (call : Nat → Calls2) (ops : Array Oper)
theorem qHasBody_ok {f : FuncId} (h : kop1.qHasBody P f = true) : hasBody P f = true := by
  unfold kop1.qHasBody at h
  split at h
  · rename_i fn hf
    rw [nthO_eq] at hf
    have hf : P.funcs[f]? = some fn := by rw [← hf]; simp
    simp only [hasBody, hf]; exact h
  · cases h
def fWant (v : Value) (want : Bool) : Bool := match v with
  | .bool true => want
  | .bool false => !want
  | _ => false
noncomputable def qWant (v : Value) (want : Bool) : Bool :=
  @Value.rec (fun _ => Bool → Bool) (fun _ => Unit) (fun _ => Unit)
    (fun b w => Bool.rec (motive := fun _ => Bool → Bool) (fun w => Bool.not w) (fun w => w) b w) (fun _ _ _ => false) (fun _ _ _ => false) (fun _ _ _ _ => false) (fun _ _ => false) (fun _ _ => false) (fun _ _ _ _ => false)
    (fun _ _ => false) (fun _ _ => false) (fun _ _ _ _ _ _ => false) (fun _ => false) (fun _ _ _ _ => false) (fun _ => false) (fun _ _ _ => false) (fun _ _ _ => false)
    (fun _ _ => ()) () (fun _ _ _ _ => ()) v want
theorem qWant_eq (v : Value) (want : Bool) : qWant v want = fWant v want := by
  cases v <;> first | rfl | (rename_i b; cases b <;> rfl)
noncomputable def kWhen (o : Oper) (p : Tmp) (want : Bool) (κ : KO' F) : KO' F :=
  wS O N o.dst (fun s => Gtt.rec (motive := fun _ => KO' F → KO' F) (fun g κ => KO'.rec (motive := fun _ => KO' F)
    (fun f => ⟨fun E k t A => .node (qWant (g t) want) (f E k t A) (k (s undef t) A)⟩) κ) (O.get p) κ)
noncomputable def kop' (o : Oper) : KO' F := match jopOk o.op with
  | false => kfail 56
  | true => match o.guard with
    | none => jop P O N o
    | some (g, want) => match nthO ops.toList g with
      | some q => match q.dst with
        | some p => kWhen O N o p want (jop P O N { o with guard := none })
        | none => kfail 57
      | none => kfail 58
noncomputable def kchain (l : List Oper) : KO' F :=
  List.rec (motive := fun _ => KO' F) ⟨fun _ k t A => k t A⟩ (fun o _ ih => KO'.rec (motive := fun _ => KO' F → KO' F) (fun f ih => KO'.rec (motive := fun _ => KO' F) (fun r => ⟨fun E k t A => f E (r E k) t A⟩) ih) (kop' P O N ops o) ih) l
end
variable {F : Type} {P : Program} {O : FO F} {N : Nat} {fid : FuncId} {rd : Bool} {call : Nat → Calls2} {ops : Array Oper}
theorem kfail_ok {o : Oper} (n : Nat) : OpOk P O N fid rd call ops o (kfail n) := fun _ _ _ _ _ _ _ _ h => (failAt_ne h).elim
theorem wG_ok {o : Oper} {x : Operand} {c : (F → Value) → KO' F} (h : OpOk P O N fid rd call ops o (c (ob O x).f)) : OpOk P O N fid rd call ops o (wG O x c) := by
  have : wG O x c = c (ob O x).f := by unfold wG; cases ob O x; rfl
  rw [this]; exact h
theorem wGo_ok {o : Oper} {x : Option Operand} {c : (F → Option Value) → KO' F} (h : OpOk P O N fid rd call ops o (c fun t => x.map fun x => (ob O x).f t)) : OpOk P O N fid rd call ops o (wGo O x c) := by
  cases x with
  | none => exact h
  | some x => exact wG_ok h
theorem wS_ok {o : Oper} {d : Option Tmp} {c : (Value → F → F) → KO' F} (h : ∀ s, stOf O N d = some s → OpOk P O N fid rd call ops o (c s.f)) : OpOk P O N fid rd call ops o (wS O N d c) := by
  unfold wS
  cases hs : stOf O N d with
  | none => exact kfail_ok 51
  | some s =>
    have := h s hs
    cases s
    exact this
structure Fit (O : FO F) (N : Nat) : Prop where
  ok : FOk O
  cap : N ≤ O.cap
theorem val_ok (hF : Fit O N) {o : Oper} {s : Stt F} (hok : opOk o = true) (hg : o.guard = none) (hs : stOf O N o.dst = some s) {κ : KO' F}
    (hq : ∀ E, EOk E call → ∀ t fr A k R, FRel O N fid rd t fr → Tree.eval (κ.f E k t A) = some R → ∃ v A', aExec P (ev fr) o A = some (.value v, A') ∧ Tree.eval (k (s.f v t) A') = some R) : OpOk P O N fid rd call ops o κ := by
  intro E hE t fr A k R hr h
  obtain ⟨v, A', h1, h2⟩ := hq E hE t fr A k R hr h
  obtain ⟨fr', hp, hr'⟩ := hr.put hF.ok hF.cap hs v
  exact ⟨fr', A', _, .of fun m => by simp [evalOp, want_none hg, hok, h1, hp], hr', h2⟩
theorem kMove_ok (hF : Fit O N) {o : Oper} (hok : opOk o = true) (hg : o.guard = none) {x : Operand} (hx : ∀ (ρ : Operand → Value) (A : AS), aExec P ρ o A = some (.value (ρ x), A)) : OpOk P O N fid rd call ops o (kMove O N o x) := by
  refine wS_ok fun s hs => wG_ok (val_ok hF hok hg hs ?_)
  intro E hE t fr A k R hr h
  have h : Tree.eval (qForce ((ob O x).f t) (fun v => k (s.f v t) A)) = some R := h
  rw [hr.ob hF.ok] at h
  exact ⟨_, _, hx _ _, qForce_ok h⟩
theorem kVal1_ok (hF : Fit O N) {o : Oper} (hok : opOk o = true) (hg : o.guard = none) {q : Value → (Value → Ans) → Ans} {f : Value → Option Value} {x : Operand}
    (hq : ∀ v c R, Tree.eval (q v c) = some R → ∃ u, f v = some u ∧ Tree.eval (c u) = some R) (hf : ∀ (ρ : Operand → Value) (A : AS) u, f (ρ x) = some u → aExec P ρ o A = some (.value u, A)) : OpOk P O N fid rd call ops o (kVal1 O N o q x) := by
  refine wS_ok fun s hs => wG_ok (val_ok hF hok hg hs ?_)
  intro E hE t fr A k R hr h
  obtain ⟨u, h1, h2⟩ := hq _ _ _ h
  rw [hr.ob hF.ok] at h1
  exact ⟨_, _, hf _ _ _ h1, h2⟩
theorem kVal2_ok (hF : Fit O N) {o : Oper} (hok : opOk o = true) (hg : o.guard = none) {q : Value → Value → (Value → Ans) → Ans} {f : Value → Value → Option Value} {x y : Operand}
    (hq : ∀ v w c R, Tree.eval (q v w c) = some R → ∃ u, f v w = some u ∧ Tree.eval (c u) = some R) (hf : ∀ (ρ : Operand → Value) (A : AS) u, f (ρ x) (ρ y) = some u → aExec P ρ o A = some (.value u, A)) : OpOk P O N fid rd call ops o (kVal2 O N o q x y) := by
  refine wS_ok fun s hs => wG_ok (wG_ok (val_ok hF hok hg hs ?_))
  intro E hE t fr A k R hr h
  obtain ⟨u, h1, h2⟩ := hq _ _ _ _ h
  rw [hr.ob hF.ok, hr.ob hF.ok] at h1
  exact ⟨_, _, hf _ _ _ h1, h2⟩
theorem kVal3_ok (hF : Fit O N) {o : Oper} (hok : opOk o = true) (hg : o.guard = none) {q : Value → Value → Value → (Value → Ans) → Ans} {f : Value → Value → Value → Option Value} {x y z : Operand}
    (hq : ∀ v w i c R, Tree.eval (q v w i c) = some R → ∃ u, f v w i = some u ∧ Tree.eval (c u) = some R) (hf : ∀ (ρ : Operand → Value) (A : AS) u, f (ρ x) (ρ y) (ρ z) = some u → aExec P ρ o A = some (.value u, A)) : OpOk P O N fid rd call ops o (kVal3 O N o q x y z) := by
  refine wS_ok fun s hs => wG_ok (wG_ok (wG_ok (val_ok hF hok hg hs ?_)))
  intro E hE t fr A k R hr h
  obtain ⟨u, h1, h2⟩ := hq _ _ _ _ _ h
  rw [hr.ob hF.ok, hr.ob hF.ok, hr.ob hF.ok] at h1
  exact ⟨_, _, hf _ _ _ h1, h2⟩
theorem kValA_ok (hF : Fit O N) {o : Oper} (hok : opOk o = true) (hg : o.guard = none) {q : AS → Value → (Value → Ans) → Ans} {f : AS → Value → Option Value} {x : Operand}
    (hq : ∀ A v c R, Tree.eval (q A v c) = some R → ∃ u, f A v = some u ∧ Tree.eval (c u) = some R) (hf : ∀ (ρ : Operand → Value) (A : AS) u, f A (ρ x) = some u → aExec P ρ o A = some (.value u, A)) : OpOk P O N fid rd call ops o (kValA O N o q x) := by
  refine wS_ok fun s hs => wG_ok (val_ok hF hok hg hs ?_)
  intro E hE t fr A k R hr h
  obtain ⟨u, h1, h2⟩ := hq _ _ _ _ h
  rw [hr.ob hF.ok] at h1
  exact ⟨_, _, hf _ _ _ h1, h2⟩
theorem kCut_ok (hF : Fit O N) {o : Oper} (hok : opOk o = true) (hg : o.guard = none) {q : Value → Option Value → Option Value → (Value → Ans) → Ans} {f : Value → Option Value → Option Value → Option Value}
    {x : Operand} {lo hi : Option Operand} (hq : ∀ v w i c R, Tree.eval (q v w i c) = some R → ∃ u, f v w i = some u ∧ Tree.eval (c u) = some R)
    (hf : ∀ (ρ : Operand → Value) (A : AS) u, f (ρ x) (lo.map ρ) (hi.map ρ) = some u → aExec P ρ o A = some (.value u, A)) : OpOk P O N fid rd call ops o (kCut O N o q x lo hi) := by
  refine wS_ok fun s hs => wG_ok (wGo_ok (wGo_ok (val_ok hF hok hg hs ?_)))
  intro E hE t fr A k R hr h
  obtain ⟨u, h1, h2⟩ := hq _ _ _ _ _ h
  simp only [hr.ob hF.ok] at h1
  exact ⟨_, _, hf _ _ _ h1, h2⟩
theorem skip_ok (hF : Fit O N) {o : Oper} {s : Stt F} (hok : opOk o = true) (hg : o.guard = none) (hs : stOf O N o.dst = some s) {κ : KO' F}
    (hq : ∀ E, EOk E call → ∀ t fr A k R, FRel O N fid rd t fr → Tree.eval (κ.f E k t A) = some R → ∃ A', aExec P (ev fr) o A = some (.skip, A') ∧ Tree.eval (k (s.f undef t) A') = some R) : OpOk P O N fid rd call ops o κ := by
  intro E hE t fr A k R hr h
  obtain ⟨A', h1, h2⟩ := hq E hE t fr A k R hr h
  obtain ⟨fr', hp, hr'⟩ := hr.put hF.ok hF.cap hs undef
  exact ⟨fr', A', _, .of fun m => by simp [evalOp, want_none hg, hok, h1, hp], hr', h2⟩
theorem kStoreOp_ok (hF : Fit O N) {o : Oper} (hok : opOk o = true) (hg : o.guard = none) {ty : TypeId} {a x : Operand} (ho : o.op = .store ty a x) (hk : kStore P ty = true) : OpOk P O N fid rd call ops o (kStoreOp O N o a x) := by
  refine wS_ok fun s hs => wG_ok (wG_ok (skip_ok hF hok hg hs ?_))
  intro E hE t fr A k R hr h
  obtain ⟨A', h1, h2⟩ := qStore_ok h
  rw [hr.ob hF.ok, hr.ob hF.ok] at h1
  exact ⟨_, fStore_ok ho hk h1, h2⟩
theorem kAllocOp_ok (hF : Fit O N) {o : Oper} (hok : opOk o = true) (hg : o.guard = none) {ty : TypeId} {cs : List Value} (ho : o.op = .alloc ty) (hk : kAlloc P ty = some cs) : OpOk P O N fid rd call ops o (kAllocOp O N o cs) := by
  refine wS_ok fun s hs => val_ok hF hok hg hs ?_
  intro E hE t fr A k R hr h
  have h1 : Tree.eval (qNew A cs (fun v A => k (s.f v t) A)) = some R := h
  have h2 := qNew_ok h1
  exact ⟨_, _, fAlloc_ok ho hk, h2⟩
theorem kBoxOp_ok (hF : Fit O N) {o : Oper} (hok : opOk o = true) (hg : o.guard = none) {ty : TypeId} {x : Operand} (ho : o.op = .box ty x) : OpOk P O N fid rd call ops o (kBoxOp O N o x) := by
  refine wS_ok fun s hs => wG_ok (val_ok hF hok hg hs ?_)
  intro E hE t fr A k R hr h
  have h0 : Tree.eval (qCellsV ((ob O x).f t) (fun cs => qNew A cs (fun v A => k (s.f v t) A))) = some R := h
  have h1 := qCellsV_ok h0
  have h2 := qNew_ok h1
  simp only [hr.ob hF.ok] at h2
  exact ⟨_, _, fBox_ok ho, h2⟩
theorem kCallOp_ok (hF : Fit O N) {o : Oper} (hok : opOk o = true) (hg : o.guard = none) {c : Call} {f : FuncId} (ho : o.op = .call c) (hc : c.callee = .value (.func f)) (hb : hasBody P f = true) :
    OpOk P O N fid rd call ops o (kCallOp O N o f c.args.toList) := by
  refine wS_ok fun s hs => ?_
  have e : (Gts.rec (motive := fun _ => KO' F) (fun g => ⟨fun E k t A => E.call f (g t) A (fun v A => k (s.f v t) A)⟩) (obs O c.args.toList) : KO' F) =
      ⟨fun E k t A => E.call f ((obs O c.args.toList).f t) A (fun v A => k (s.f v t) A)⟩ := by cases obs O c.args.toList; rfl
  rw [e]
  intro E hE t fr A k R hr h
  obtain ⟨v, A', h1, h2⟩ := hE.call _ _ _ _ _ h
  obtain ⟨fr', hp, hr'⟩ := hr.put hF.ok hF.cap hs v
  refine ⟨fr', A', _, h1.imp fun m hm => ?_, hr', h2⟩
  rw [obs_f] at hm
  simp only [hr.ob hF.ok] at hm
  have hpl : plainOp (ev fr) o = false := by simp [plainOp, ho, hc]
  have hx : aExec P (ev fr) o A = some (.enter f (c.args.toList.map (ev fr)), A) := by
    simp [aExec, hpl, aSpecial, ho, hc, ev, aResolve, hb]
  simp [evalOp, want_none hg, hok, hx, hm, hp]
theorem qRun_ok (hF : Fit O N) {o : Oper} (hok : opOk o = true) (hg : o.guard = none) {s : Stt F} (hs : stOf O N o.dst = some s) {E : KE} (hE : EOk E call) {t : F} {fr : Fr} {A : AS} {k : F → AS → Ans} {R : Value × AS} (hr : FRel O N fid rd t fr)
    (h : Tree.eval (qRun E (aExec P (fun x => (ob O x).f t) o A) (fun v A => k (s.f v t) A)) = some R) :
    ∃ fr' A' t', Ev (fun m => evalOp P (call m) ops o fr A = some (fr', A')) ∧ FRel O N fid rd t' fr' ∧ Tree.eval (k t' A') = some R := by
  have hρ : (fun x => (ob O x).f t) = ev fr := funext (hr.ob hF.ok)
  rw [hρ] at h
  unfold qRun at h
  cases hx : aExec P (ev fr) o A with
  | none => rw [hx] at h; exact (failAt_ne h).elim
  | some r =>
    obtain ⟨nx, A'⟩ := r
    rw [hx] at h
    cases nx with
    | value v =>
      obtain ⟨fr', hp, hr'⟩ := hr.put hF.ok hF.cap hs v
      exact ⟨fr', A', _, .of fun m => by simp [evalOp, want_none hg, hok, hx, hp], hr', h⟩
    | skip =>
      obtain ⟨fr', hp, hr'⟩ := hr.put hF.ok hF.cap hs undef
      exact ⟨fr', A', _, .of fun m => by simp [evalOp, want_none hg, hok, hx, hp], hr', h⟩
    | enter f args =>
      have h : Tree.eval (E.call f args A' (fun v A => k (s.f v t) A)) = some R := h
      obtain ⟨v, A2, h1, h2⟩ := hE.call _ _ _ _ _ h
      obtain ⟨fr', hp, hr'⟩ := hr.put hF.ok hF.cap hs v
      exact ⟨fr', A2, _, h1.imp fun m hm => by simp [evalOp, want_none hg, hok, hx, hm, hp], hr', h2⟩
    | defer d => exact (failAt_ne h).elim
    | round l args =>
      have h : Tree.eval (E.round l args A' (fun v A => k (s.f v t) A)) = some R := h
      obtain ⟨v, A2, h1, h2⟩ := hE.round _ _ _ _ _ h
      obtain ⟨fr', hp, hr'⟩ := hr.put hF.ok hF.cap hs v
      exact ⟨fr', A2, _, h1.imp fun m hm => by simp [evalOp, want_none hg, hok, hx, hm, hp], hr', h2⟩
theorem kGen_ok (hF : Fit O N) {o : Oper} (hok : opOk o = true) (hg : o.guard = none) : OpOk P O N fid rd call ops o (kGen P O N o) := by
  refine wS_ok fun s hs => ?_
  intro E hE t fr A k R hr h
  exact qRun_ok hF hok hg hs hE hr h
theorem kCutS_ok (hF : Fit O N) {o : Oper} (hok : opOk o = true) (hg : o.guard = none) {ty : TypeId} {z : Nat} {x : Operand} {lo hi : Option Operand} (ho : o.op = .slice ty x lo hi none) (hk : kSlice P ty = some z) :
    OpOk P O N fid rd call ops o (kCutS P O N o z x lo hi) := by
  refine wS_ok fun s hs => wG_ok (wGo_ok (wGo_ok ?_))
  intro E hE t fr A k R hr h
  dsimp only at h
  rcases qSli_ok h with ⟨v, h1, h2⟩ | h
  · simp only [hr.ob hF.ok] at h1
    obtain ⟨fr', hp, hr'⟩ := hr.put hF.ok hF.cap hs v
    exact ⟨fr', A, _, .of fun m => by simp [evalOp, want_none hg, hok, fSlice_ok ho hk h1, hp], hr', h2⟩
  · exact qRun_ok hF hok hg hs hE hr h
theorem kStoreN_ok (hF : Fit O N) {o : Oper} (hok : opOk o = true) (hg : o.guard = none) {ty : TypeId} {n : Nat} {a x : Operand} (ho : o.op = .store ty a x) (hn : tSize P ty = some n) : OpOk P O N fid rd call ops o (kStoreN O N o n a x) := by
  refine wS_ok fun s hs => wG_ok (wG_ok (skip_ok hF hok hg hs ?_))
  intro E hE t fr A k R hr h
  have h : Tree.eval (qStoreN n A ((ob O a).f t) ((ob O x).f t) (fun A => k (s.f undef t) A)) = some R := h
  rw [hr.ob hF.ok, hr.ob hF.ok] at h
  exact qStoreN_ok ho hn h
theorem kConv_ok (hF : Fit O N) {o : Oper} (hok : opOk o = true) (hg : o.guard = none) {s d : TypeId} {x : Operand} {k : IntKind} {a : TypeDesc} (ho : o.op = .convert s d x) (hs : P.underlying s = some a) (hd : P.underlying d = some (.int k)) :
    OpOk P O N fid rd call ops o (kVal1 O N o (qConv k) x) := by
  refine wS_ok fun st hst => wG_ok (val_ok hF hok hg hst ?_)
  intro E hE t fr A c R hr h
  have h : Tree.eval (qConv k ((ob O x).f t) (fun v => c (st.f v t) A)) = some R := h
  rw [hr.ob hF.ok] at h
  obtain ⟨v, h1, h2⟩ := qConv_ok (A := A) ho hs hd h
  exact ⟨v, A, h1, h2⟩
theorem qAllSized_ok : ∀ {fs : List Field}, qAllSized P fs = true → ∀ f ∈ fs, (P.info? f.type).isSome = true
  | [], _, _, h => by cases h
  | f :: fs, h, g, hg => by
    have h : (match qinfo P f.type with
      | some _ => qAllSized P fs
      | none => false) = true := h
    split at h
    · rename_i i hi
      rcases List.mem_cons.1 hg with rfl | hg
      · rw [qinfo_ok hi]; rfl
      · exact qAllSized_ok h g hg
    · cases h
theorem qPlace_ok {t : TypeId} {d : TypeDesc} (hd : P.underlying t = some d) (hp : qPlaced P d = true) : ∃ pl, aPlaces P t = some pl ∧ ∀ i r, qPlace P d i = some r → pl i = some r := by
  unfold qPlaced at hp
  unfold aPlaces
  rw [hd]
  split at hp
  · rename_i fields
    have hall := qAllSized_ok hp
    have hc : (fields.all fun f => (P.info? f.type).isSome) = true := by
      rw [Array.all_eq_true_iff_forall_mem]
      intro f hf
      exact hall f (by simpa using hf)
    simp only [hc, if_true]
    refine ⟨_, rfl, fun i r h => ?_⟩
    simp only [qPlace] at h
    split at h
    · rename_i f hf
      rw [nthO_eq] at hf
      have hf : fields[i]? = some f := by rw [← hf]; simp
      split at h
      · rename_i n hn
        have hn := qSize_ok hn
        unfold tSize at hn
        split at hn
        · rename_i inf hi
          simp only [Option.some.injEq] at hn h
          subst hn h
          simp only [hf, Option.map_some, hi, Option.getD_some]
        · cases hn
      · cases h
    · cases h
  · rename_i len el
    split at hp
    · rename_i n hn
      simp only [qSize_ok hn]
      refine ⟨_, rfl, fun i r h => ?_⟩
      simp only [qPlace, hn] at h
      exact h
    · cases hp
  · cases hp
theorem kparts_ok (hO : FOk O) {t : F} {fr : Fr} (hr : FRel O N fid rd t fr) {pl pl' : Nat → Option (Nat × Nat)} (hpl : ∀ i r, pl i = some r → pl' i = some r) {R : Value × AS} : ∀ (ps : List (Nat × Operand)) (cs : List Value) (c : List Value → Ans),
    Tree.eval ((kparts O pl ps).f t cs c) = some R → ∃ r, Instr.fill pl' ⟨cs⟩ (ps.map fun (i, x) => (i, ev fr x)) = some r ∧ Tree.eval (c r.toList) = some R
  | [], cs, c, h => ⟨⟨cs⟩, rfl, h⟩
  | (i, x) :: ps, cs, c, h => by
    have e0 : kparts O pl ((i, x) :: ps) = Option.rec (motive := fun _ => KP F) ⟨fun _ _ _ => failAt 154⟩
      (fun w => Prod.rec (motive := fun _ => KP F) (fun off n => Gtt.rec (motive := fun _ => KP F) (fun g => KP.rec (motive := fun _ => KP F)
        (fun r => ⟨fun t cs c => qCellsV (g t) (fun vs => qIf (Nat.beq (llen vs) n) (qSpl off vs cs (fun cs => r t cs c)) (failAt 155))⟩) (kparts O pl ps)) (ob O x)) w) (pl i) := rfl
    rw [e0] at h
    cases hp : pl i with
    | none => rw [hp] at h; exact (failAt_ne h).elim
    | some w =>
      obtain ⟨off, n⟩ := w
      rw [hp] at h
      have h : Tree.eval (qCellsV ((ob O x).f t) (fun vs => qIf (Nat.beq (llen vs) n) (qSpl off vs cs (fun cs => (kparts O pl ps).f t cs c)) (failAt 155))) = some R := h
      have h1 := qCellsV_ok h
      obtain ⟨hl, h2⟩ := qIf_ok h1
      obtain ⟨hb, h3⟩ := qSpl_ok h2
      rw [hr.ob hO] at hl hb h3
      rw [llen_eq] at hl
      obtain ⟨r, h4, h5⟩ := kparts_ok hO hr hpl ps _ c h3
      refine ⟨r, ?_, h5⟩
      rw [List.map_cons, fill_cons (hpl _ _ hp) (Nat.eq_of_beq_eq_true hl) hb]
      exact h4
theorem qZero_ok {t : TypeId} {z : List Value} (h : qZero P t = some z) : ∃ v, tZero P t = some v ∧ flat v = true ∧ v.cells.toList = z := by
  unfold qZero at h
  split at h
  · rename_i i hi
    split at h
    · rename_i v hv
      split at h
      · rename_i hf
        simp only [Option.some.injEq] at h
        exact ⟨v, by simp only [tZero, qinfo_ok hi]; exact hv, hf, h⟩
      · cases h
    · cases h
  · cases h
theorem kBuild_ok (hF : Fit O N) {o : Oper} (hok : opOk o = true) (hg : o.guard = none) {ty : TypeId} {ps : Array (Nat × Operand)} {d : TypeDesc} {z : List Value} (ho : o.op = .build ty ps) (hd : P.underlying ty = some d) (hp : qPlaced P d = true)
    (hz : qZero P ty = some z) : OpOk P O N fid rd call ops o (kBuild O N o z (qPlace P d) ps.toList) := by
  refine wS_ok fun s hs => ?_
  have e : (KP.rec (motive := fun _ => KO' F) (fun r => ⟨fun _ k t A => r t z (fun cs => k (s.f (.agg ⟨cs⟩) t) A)⟩) (kparts O (qPlace P d) ps.toList) : KO' F) =
      ⟨fun _ k t A => (kparts O (qPlace P d) ps.toList).f t z (fun cs => k (s.f (.agg ⟨cs⟩) t) A)⟩ := by cases kparts O (qPlace P d) ps.toList; rfl
  rw [e]
  refine val_ok hF hok hg hs ?_
  intro E hE t fr A k R hr h
  obtain ⟨pl, h1, h2⟩ := qPlace_ok hd hp
  obtain ⟨v, h3, h4, rfl⟩ := qZero_ok hz
  obtain ⟨r, h5, h6⟩ := kparts_ok hF.ok hr h2 _ _ _ h
  have hpl : plainOp (ev fr) o = false := by simp [plainOp, ho]
  have hb : aBuild P ty (ps.toList.map fun (i, x) => (i, ev fr x)) = some (.agg r) := by
    simp only [aBuild, h3, h1, h4, if_true]
    have e : (⟨v.cells.toList⟩ : Array Value) = v.cells := rfl
    rw [e] at h5
    rw [h5]; rfl
  refine ⟨.agg r, A, ?_, h6⟩
  simp only [aExec, hpl, Bool.false_eq_true, if_false, aSpecial, ho, hb, Option.map_some]
theorem kBuildS_ok (hF : Fit O N) {o : Oper} (hok : opOk o = true) (hg : o.guard = none) {ty el : TypeId} {len : Nat} {ps : Array (Nat × Operand)} {i : TypeInfo} {z : Value} (ho : o.op = .buildSlice ty len ps) (hd : P.underlying ty = some (.slice el))
    (hi : P.info? el = some i) (hz : i.zero = some z) (hf : flat z = true) (hl : Nat.ble (len * i.size) 16777216 = true) : OpOk P O N fid rd call ops o (kBuildS O N o (pattern z.cells (len * i.size)) i.size len ps.toList) := by
  refine wS_ok fun s hs => ?_
  have e : (KP.rec (motive := fun _ => KO' F) (fun r => ⟨fun _ k t A => r t (pattern z.cells (len * i.size)) (fun cs => qNewS A cs i.size len (fun v A => k (s.f v t) A))⟩) (kparts O (fun j => some (Nat.mul j i.size, i.size)) ps.toList) : KO' F) =
      ⟨fun _ k t A => (kparts O (fun j => some (Nat.mul j i.size, i.size)) ps.toList).f t (pattern z.cells (len * i.size)) (fun cs => qNewS A cs i.size len (fun v A => k (s.f v t) A))⟩ := by
    cases kparts O (fun j => some (Nat.mul j i.size, i.size)) ps.toList; rfl
  rw [e]
  refine val_ok hF hok hg hs ?_
  intro E hE t fr A k R hr h
  obtain ⟨r, h5, h6⟩ := kparts_ok hF.ok hr (pl' := fun j => some (j * i.size, i.size)) (fun _ _ h => h) _ _ _ h
  have h7 := qNewS_ok h6
  have hpl : plainOp (ev fr) o = false := by simp [plainOp, ho]
  have hle : Nat.ble (len * i.size) (2 ^ 24) = true := hl
  have hb : aBuildSlice P A ty len (ps.toList.map fun (i, x) => (i, ev fr x)) = some (.slice (some ⟨A.next, 0, none⟩) len len, A.new (.cells r.toList i.size false)) := by
    unfold aBuildSlice
    simp only [hd, hi, hz, hf, hle, Bool.and_self, if_true]
    rw [h5]
  refine ⟨_, _, ?_, h7⟩
  simp only [aExec, hpl, Bool.false_eq_true, if_false, aSpecial, ho, hb, Option.map_some]
theorem kMakeF_ok (hF : Fit O N) {o : Oper} (hok : opOk o = true) (hg : o.guard = none) {f : FuncId} {xs us : Array Operand} (ho : o.op = .makeFunc (.func f) xs us) : OpOk P O N fid rd call ops o (kMakeF O N o f xs.toList us.toList) := by
  refine wS_ok fun s hs => ?_
  have e : (Gts.rec (motive := fun _ => KO' F) (fun g => Gts.rec (motive := fun _ => KO' F) (fun h => ⟨fun _ k t A => k (s.f (.func (.func f) ⟨g t⟩ ⟨h t⟩) t) A⟩) (obs O us.toList)) (obs O xs.toList) : KO' F) =
      ⟨fun _ k t A => k (s.f (.func (.func f) ⟨(obs O xs.toList).f t⟩ ⟨(obs O us.toList).f t⟩) t) A⟩ := by cases obs O xs.toList; cases obs O us.toList; rfl
  rw [e]
  refine val_ok hF hok hg hs ?_
  intro E hE t fr A k R hr h
  have hpl : plainOp (ev fr) o = false := by simp [plainOp, ho]
  dsimp only at h
  rw [obs_f, obs_f] at h
  simp only [hr.ob hF.ok] at h
  refine ⟨_, A, ?_, h⟩
  simp only [aExec, hpl, Bool.false_eq_true, if_false, aSpecial, ho, Option.map_some, Option.some.injEq, Prod.mk.injEq, ANext.value.injEq, and_true]
  congr 1 <;> (apply Array.ext'; simp)
theorem qDefer_ok {r : Option (ANext × AS)} {c : Deferred → AS → Ans} {R : Value × AS} (h : Tree.eval (qDefer r c) = some R) : ∃ d A, r = some (.defer d, A) ∧ Tree.eval (c d A) = some R := by
  unfold qDefer at h
  split at h
  · exact ⟨_, _, rfl, h⟩
  · exact (failAt_ne h).elim
theorem kDefer_ok (hF : Fit O N) {o : Oper} (hok : opOk o = true) (hg : o.guard = none) : OpOk P O N fid rd call ops o (kDefer P O N o) := by
  unfold kDefer
  split
  · exact kfail_ok 49
  · rename_i r htr
    refine wS_ok fun s hs => ?_
    intro E hE t fr A k R hr h
    dsimp only at h
    obtain ⟨d, A', hx, h⟩ := qDefer_ok h
    obtain ⟨hrd, h⟩ := qIf_ok h
    have hρ : (fun x => (ob O x).f t) = ev fr := funext (hr.ob hF.ok)
    rw [hρ] at hx
    obtain ⟨_, _, h3, h4⟩ := hF.ok.tr r htr t fr hr.rel
    have hin : fr.inRound = false := by
      rw [h3] at hrd
      cases hq : fr.inRound with
      | false => rfl
      | true => rw [hq] at hrd; cases hrd
    have hr1 : FRel O N fid rd (r.push d t) { fr with defers := d :: fr.defers } := ⟨h4 d, hr.nt, hr.fn, hr.rd⟩
    obtain ⟨fr', hp, hr'⟩ := hr1.put hF.ok hF.cap hs undef
    refine ⟨fr', A', _, .of fun m => ?_, hr', h⟩
    have hn : ¬ (fr.inRound = true) := by rw [hin]; exact Bool.false_ne_true
    unfold evalOp
    rw [want_none hg]
    simp only [if_true, hok, hx]
    rw [if_neg hn, hp]
theorem kEqP_ok (hF : Fit O N) {o : Oper} (hok : opOk o = true) (hg : o.guard = none) {op : BinOp} {neg : Bool} {t yt : TypeId} {x y : Operand} (hop : (op = .eql ∧ neg = false) ∨ (op = .neq ∧ neg = true)) (ho : o.op = .binOp op t x y yt)
    (ht : eqPlain P t = true) : OpOk P O N fid rd call ops o (kVal2 O N o (qEqP P t neg) x y) := by
  refine wS_ok fun s hs => wG_ok (wG_ok (val_ok hF hok hg hs ?_))
  intro E hE t' fr A k R hr h
  have h : Tree.eval (qEqP P t neg ((ob O x).f t') ((ob O y).f t') (fun v => k (s.f v t') A)) = some R := h
  rw [hr.ob hF.ok, hr.ob hF.ok] at h
  unfold qEqP at h
  cases hb : fEqP P t (ev fr x) (ev fr y) with
  | none => rw [hb] at h; exact (failAt_ne h).elim
  | some b =>
    rw [hb] at h
    refine ⟨_, A, fEqP_ok hop ho ht hb, ?_⟩
    have e : xor neg b = (Bool.rec (motive := fun _ => Bool) b (Bool.not b) neg : Bool) := by cases neg <;> cases b <;> rfl
    rw [e]; exact h
theorem kMM_ok (hF : Fit O N) {o : Oper} (hok : opOk o = true) (hg : o.guard = none) {x y : Operand} {q : Value → Value → (Value → Ans) → Ans}
    (hq : ∀ {ρ : Operand → Value} {A : AS} {k : Value → Ans} {R : Value × AS}, Tree.eval (q (ρ x) (ρ y) k) = some R → ∃ v, aExec P ρ o A = some (.value v, A) ∧ Tree.eval (k v) = some R) : OpOk P O N fid rd call ops o (kVal2 O N o q x y) := by
  refine wS_ok fun s hs => wG_ok (wG_ok (val_ok hF hok hg hs ?_))
  intro E hE t' fr A k R hr h
  have h : Tree.eval (q ((ob O x).f t') ((ob O y).f t') (fun v => k (s.f v t') A)) = some R := h
  rw [hr.ob hF.ok, hr.ob hF.ok] at h
  obtain ⟨v, h1, h2⟩ := hq (A := A) h
  exact ⟨v, A, h1, h2⟩
theorem kop1_ok (hF : Fit O N) {o : Oper} (hok : opOk o = true) (hg : o.guard = none) : OpOk P O N fid rd call ops o (kop1 P O N o) := by
  have gen := kGen_ok (P := P) (fid := fid) (rd := rd) (call := call) (ops := ops) hF hok hg
  unfold kop1
  split
  · rename_i x ho; exact kMove_ok hF hok hg fun _ _ => move_ok ho
  · rename_i x ho; exact kMove_ok hF hok hg fun _ _ => assign_ok ho
  · rename_i c a b ho; exact kVal3_ok hF hok hg (fun _ _ _ _ _ h => qPick_ok h) fun _ _ _ h => fPick_ok ho h
  · rename_i op t x y yt ho
    split
    · split
      · exact kVal2_ok hF hok hg (fun _ _ _ _ h => qAdd64_ok h) fun _ _ _ h => fBin_ok ho h
      · exact kVal2_ok hF hok hg (fun _ _ _ _ h => qSub64_ok h) fun _ _ _ h => fBin_ok ho h
      · exact kVal2_ok hF hok hg (fun _ _ _ _ h => qMul64_ok h) fun _ _ _ h => fBin_ok ho h
      · exact kVal2_ok hF hok hg (fun _ _ _ _ h => qEq64_ok h) fun _ _ _ h => fBin_ok ho h
      · exact kVal2_ok hF hok hg (fun _ _ _ _ h => qNe64_ok h) fun _ _ _ h => fBin_ok ho h
      · exact kVal2_ok hF hok hg (fun _ _ _ _ h => qLt64_ok h) fun _ _ _ h => fBin_ok ho h
      · exact kVal2_ok hF hok hg (fun _ _ _ _ h => qLe64_ok h) fun _ _ _ h => fBin_ok ho h
      · exact kVal2_ok hF hok hg (fun _ _ _ _ h => qGt64_ok h) fun _ _ _ h => fBin_ok ho h
      · exact kVal2_ok hF hok hg (fun _ _ _ _ h => qGe64_ok h) fun _ _ _ h => fBin_ok ho h
      · exact gen
    · split
      · exact kVal2_ok hF hok hg (fun _ _ _ _ h => qAr_ok h) fun _ _ _ h => fBin_ok ho h
      · exact kVal2_ok hF hok hg (fun _ _ _ _ h => qAr_ok h) fun _ _ _ h => fBin_ok ho h
      · exact kVal2_ok hF hok hg (fun _ _ _ _ h => qAr_ok h) fun _ _ _ h => fBin_ok ho h
      · exact kVal2_ok hF hok hg (fun _ _ _ _ h => qCm_ok h) fun _ _ _ h => fBin_ok ho h
      · exact kVal2_ok hF hok hg (fun _ _ _ _ h => qCm_ok h) fun _ _ _ h => fBin_ok ho h
      · exact kVal2_ok hF hok hg (fun _ _ _ _ h => qCm_ok h) fun _ _ _ h => fBin_ok ho h
      · exact kVal2_ok hF hok hg (fun _ _ _ _ h => qCm_ok h) fun _ _ _ h => fBin_ok ho h
      · exact kVal2_ok hF hok hg (fun _ _ _ _ h => qCm_ok h) fun _ _ _ h => fBin_ok ho h
      · exact kVal2_ok hF hok hg (fun _ _ _ _ h => qCm_ok h) fun _ _ _ h => fBin_ok ho h
      · exact gen
    · split
      · exact kVal2_ok hF hok hg (fun _ _ _ _ h => qStEq_ok h) fun _ _ _ h => fStr_ok ho h
      · exact kVal2_ok hF hok hg (fun _ _ _ _ h => qStNe_ok h) fun _ _ _ h => fStr_ok ho h
      · exact gen
    · split
      · rename_i heq
        split
        · exact kEqP_ok hF hok hg (.inl ⟨rfl, rfl⟩) ho heq
        · exact kEqP_ok hF hok hg (.inr ⟨rfl, rfl⟩) ho heq
        · exact gen
      · exact gen
    · split
      · rename_i heq
        split
        · exact kEqP_ok hF hok hg (.inl ⟨rfl, rfl⟩) ho heq
        · exact kEqP_ok hF hok hg (.inr ⟨rfl, rfl⟩) ho heq
        · exact gen
      · exact gen
    · exact gen
  · rename_i op t x ho
    split
    · exact kVal1_ok hF hok hg (fun _ _ _ h => qNot_ok h) fun _ _ _ h => fUn_ok ho h
    · exact gen
  · rename_i x i ho
    exact kVal1_ok hF hok hg (f := fun x => fExtract x i) (fun _ _ _ h => qExt_ok h) fun _ _ _ h => fExtract_ok ho h
  · rename_i t x ho
    split
    · rename_i n hn
      exact kValA_ok hF hok hg (fun _ _ _ _ h => qLoad_ok h) fun _ _ _ h => fLoad_ok ho (qkLoad_ok hn) h
    · exact gen
  · rename_i t x i ho
    split
    · rename_i n z hk
      exact kVal2_ok hF hok hg (fun _ _ _ _ h => qIdxS_ok (n := n) h) fun _ _ _ h => fIdx_ok ho (qkIdx_ok hk) h
    · rename_i n z hk
      exact kVal2_ok hF hok hg (fun _ _ _ _ h => qIdxA_ok h) fun _ _ _ h => fIdx_ok ho (qkIdx_ok hk) h
    · exact gen
  · rename_i s x k ho
    split
    · rename_i off hk
      exact kVal1_ok hF hok hg (fun _ _ _ h => qField_ok h) fun _ _ _ h => fField_ok ho (qkField_ok hk) h
    · exact gen
  · rename_i x ho
    exact kVal1_ok hF hok hg (fun _ _ _ h => qNil_f h) fun _ _ _ h => fNil_ok ho h
  · rename_i t x lo hi ho
    split
    · rename_i hs
      exact kCut_ok hF hok hg (fun _ _ _ _ _ h => qSlStr_ok h) fun _ _ _ h => fSlStr_ok ho (qIsStr_ok hs) h
    · split
      · rename_i z hz
        exact kCutS_ok hF hok hg ho (qkSlice_ok hz)
      · exact gen
  · rename_i t x i ho
    split
    · rename_i hs
      exact kVal2_ok hF hok hg (fun _ _ _ _ h => qByte_ok h) fun _ _ _ h => fByte_ok ho (qIsStr_ok hs) h
    · exact gen
  · rename_i t a x ho
    split
    · rename_i n hn
      split
      · split
        · rename_i hk; exact kStoreOp_ok hF hok hg ho (qkStore_ok hk)
        · exact kfail_ok 47
      · exact kStoreN_ok hF hok hg ho (qSize_ok hn)
    · exact gen
  · rename_i s d x ho
    split
    · rename_i a ha
      split
      · rename_i k hk
        exact kConv_ok hF hok hg ho (qunder_ok ha) (qunder_ok hk)
      · exact gen
    · exact gen
  · rename_i t ps ho
    split
    · rename_i d hd
      split
      · rename_i hp
        split
        · rename_i z hz
          exact kBuild_ok hF hok hg ho (qunder_ok hd) hp hz
        · exact gen
      · exact gen
    · exact gen
  · rename_i t len ps ho
    split
    · rename_i el hd
      split
      · rename_i i hi
        split
        · rename_i z hz
          split
          · rename_i hf
            split
            · rename_i hl
              exact kBuildS_ok hF hok hg ho (qunder_ok hd) (qinfo_ok hi) hz hf hl
            · exact gen
          · exact gen
        · exact gen
      · exact gen
    · exact gen
  · rename_i f xs us ho
    exact kMakeF_ok hF hok hg ho
  · rename_i t ho
    split
    · rename_i cs hk; exact kAllocOp_ok hF hok hg ho (qkAlloc_ok hk)
    · exact gen
  · rename_i t x ho; exact kBoxOp_ok hF hok hg ho
  · rename_i c ho
    split
    · rename_i b hc
      split
      · split
        · rename_i x ha
          split
          · rename_i k hk
            exact kVal1_ok hF hok hg (fun _ _ _ h => qLen_ok h) fun _ _ _ h => fLen_ok ho hc ha (qkLen_ok hk) h
          · exact gen
        · exact gen
      · split
        · rename_i x y ha
          exact kMM_ok hF hok hg (fun h => qMin_ok ho hc ha h)
        · exact gen
      · split
        · rename_i x y ha
          exact kMM_ok hF hok hg (fun h => qMax_ok ho hc ha h)
        · exact gen
      · exact gen
    · rename_i f hc
      split
      · rename_i hb
        exact kCallOp_ok hF hok hg ho hc (qHasBody_ok P hb)
      · exact kfail_ok 55
    · exact gen
  · exact kDefer_ok hF hok hg
  · exact gen
theorem kWhen_ok (hF : Fit O N) {o : Oper} {g : Nat} {want : Bool} (hg : o.guard = some (g, want)) {q : Oper} {p : Tmp} (hq : ops[g]? = some q) (hp : q.dst = some p) {κ : KO' F}
    (hκ : OpOk P O N fid rd call ops { o with guard := none } κ) : OpOk P O N fid rd call ops o (kWhen O N o p want κ) := by
  refine wS_ok fun s hs => ?_
  have e : (Gtt.rec (motive := fun _ => KO' F → KO' F) (fun g κ => KO'.rec (motive := fun _ => KO' F)
    (fun f => ⟨fun E k t A => .node (qWant (g t) want) (f E k t A) (k (s.f undef t) A)⟩) κ) (O.get p) κ) =
      ⟨fun E k t A => Tree.node (qWant ((O.get p).f t) want) (κ.f E k t A) (k (s.f undef t) A)⟩ := by
    cases κ; cases O.get p; rfl
  rw [e]
  intro E hE t fr A k R hr h
  have hy : yieldedA ops fr g = (match (O.get p).f t with | .bool b => some b | _ => none) := by
    simp only [yieldedA, hq, hp, hF.ok.get _ _ hr.rel]
    cases hv : fr.t.get p with
    | none => rfl
    | some u => cases u <;> rfl
  change Tree.eval (Tree.node (qWant ((O.get p).f t) want) (κ.f E k t A) (k (s.f undef t) A)) = some R at h
  rw [qWant_eq] at h
  cases hw : fWant ((O.get p).f t) want with
  | true =>
    rw [hw] at h
    have hwant : Region.wanted o (yieldedA ops fr) = true := by
      simp only [Region.wanted, hg, hy]
      unfold fWant at hw
      split at hw
      · rename_i hv; rw [hv]; simpa using hw.symm
      · rename_i hv; rw [hv]; cases want <;> simp_all
      · cases hw
    obtain ⟨fr', A', t', h1, h2, h3⟩ := hκ E hE t fr A k R hr h
    exact ⟨fr', A', t', h1.imp fun m hm => by rw [evalOp_guard hwant]; exact hm, h2, h3⟩
  | false =>
    rw [hw] at h
    have hwant : Region.wanted o (yieldedA ops fr) = false := by
      simp only [Region.wanted, hg, hy]
      unfold fWant at hw
      split at hw
      · rename_i hv; rw [hv]; simp [hw]
      · rename_i hv; rw [hv]; cases want <;> simp_all
      · rename_i h1 h2
        split
        · rename_i b hv; cases b
          · exact absurd hv h2
          · exact absurd hv h1
        · rfl
    obtain ⟨fr', hput, hr'⟩ := hr.put hF.ok hF.cap hs undef
    exact ⟨fr', A, _, .of fun m => by simp [evalOp, hwant, hput], hr', h⟩
theorem kop_ok (hF : Fit O N) (o : Oper) : OpOk P O N fid rd call ops o (kop' P O N ops o) := by
  unfold kop'
  split
  · exact kfail_ok 56
  · rename_i hok
    rw [jopOk_eq] at hok
    simp only [jop_eq]
    split
    · rename_i hg; exact kop1_ok hF hok hg
    · rename_i g want hg
      split
      · rename_i q hq
        rw [nthO_eq] at hq
        have hq : ops[g]? = some q := by rw [← hq]; simp
        split
        · rename_i p hp
          exact kWhen_ok hF hg hq hp (kop1_ok hF hok rfl)
        · exact kfail_ok 57
      · exact kfail_ok 58
theorem kchain_ok (hF : Fit O N) : ∀ (l : List Oper) E, EOk E call → ∀ t fr A k R, FRel O N fid rd t fr → Tree.eval ((kchain P O N ops l).f E k t A) = some R →
    ∃ fr' A' t', Ev (fun m => evalList P (call m) ops l fr A = some (fr', A')) ∧ FRel O N fid rd t' fr' ∧ Tree.eval (k t' A') = some R
  | [], E, hE, t, fr, A, k, R, hr, h => ⟨fr, A, t, .of fun _ => rfl, hr, h⟩
  | o :: l, E, hE, t, fr, A, k, R, hr, h => by
    have e : kchain P O N ops (o :: l) = ⟨fun E k t A => (kop' P O N ops o).f E ((kchain P O N ops l).f E k) t A⟩ := by
      have e1 : kchain P O N ops (o :: l) = KO'.rec (motive := fun _ => KO' F → KO' F) (fun f ih => KO'.rec (motive := fun _ => KO' F) (fun r => ⟨fun E k t A => f E (r E k) t A⟩) ih) (kop' P O N ops o) (kchain P O N ops l) := rfl
      rfl
    rw [e] at h
    obtain ⟨fr1, A1, t1, h1, hr1, h⟩ := kop_ok hF o E hE t fr A _ R hr h
    obtain ⟨fr2, A2, t2, h2, hr2, h⟩ := kchain_ok hF l E hE t1 fr1 A1 k R hr1 h
    exact ⟨fr2, A2, t2, (h1.and h2).imp fun m ⟨a, b⟩ => by simp [evalList, a, b], hr2, h⟩
end Go.Dp.Tr
namespace Go.Dp.Tr
open Go Go.Dp
structure KD (F : Type) where
  f : KE → (F → AS → List AS → Ans) → F → AS → List AS → Ans
structure KU (F : Type) where
  f : F → Nat → Bool
noncomputable def qUnd (v : Value) (n : Nat) : Bool :=
  @Value.rec (fun _ => Nat → Bool) (fun _ => Unit) (fun _ => Unit)
    (fun _ _ => true) (fun _ _ _ => true) (fun _ _ _ => true) (fun _ _ _ _ => true) (fun _ _ => true)
    (fun a n => Option.rec (motive := fun _ => Nat → Bool) (fun _ => true) (fun ad n => Nat.ble (Nat.succ ad.block) n) a n)
    (fun a _ _ n => Option.rec (motive := fun _ => Nat → Bool) (fun _ => true) (fun ad n => Nat.ble (Nat.succ ad.block) n) a n)
    (fun r n => Option.rec (motive := fun _ => Nat → Bool) (fun _ => true) (fun b n => Nat.ble (Nat.succ b) n) r n)
    (fun _ _ => false)
    (fun fn x u _ _ n => under 4 n (.func fn x u)) (fun _ => true) (fun _ _ _ _ => false) (fun _ => true)
    (fun vs _ n => under 4 n (.agg vs)) (fun vs _ n => under 4 n (.tuple vs))
    (fun _ _ => ()) () (fun _ _ _ _ => ()) v n
theorem qUnd_ok {v : Value} {n : Nat} (h : qUnd v n = true) : under 4 n v = true := by
  cases v with
  | pointer a => cases a with
    | none => rfl
    | some ad => exact h
  | slice a l p => cases a with
    | none => rfl
    | some ad => exact h
  | map r => cases r with
    | none => rfl
    | some b => exact h
  | chan r => cases h
  | iface t v => cases h
  | _ => first | rfl | exact h
noncomputable def qPlain (v : Value) : Bool :=
  @Value.rec (fun _ => Bool) (fun _ => Unit) (fun _ => Unit) (fun _ => true) (fun _ _ => true) (fun _ _ => true) (fun _ _ _ => true) (fun _ => true) (fun _ => false) (fun _ _ _ => false) (fun _ => false) (fun _ => false)
    (fun _ _ _ _ _ => false) true (fun _ _ _ => false) true (fun _ _ => false) (fun _ _ => false) (fun _ _ => ()) () (fun _ _ _ _ => ()) v
theorem qPlain_ok {v : Value} {n : Nat} (h : qPlain v = true) : under 4 n v = true := by
  cases v <;> first | rfl | cases h
noncomputable def qIdle (x : Operand) : Bool := Operand.rec (motive := fun _ => Bool) (fun _ => false) (fun v => qPlain v) (fun _ => false) (fun _ => true) x
section
variable {F : Type} (P : Program) (O : FO F) (N : Nat) (ops : Array Oper)
noncomputable def kund (xs : List Operand) : KU F :=
  List.rec (motive := fun _ => KU F) ⟨fun _ _ => true⟩ (fun x _ ih => Bool.rec (motive := fun _ => KU F)
    (Gtt.rec (motive := fun _ => KU F) (fun g => KU.rec (motive := fun _ => KU F) (fun r => ⟨fun t n => Bool.rec (motive := fun _ => Bool) false (r t n) (qUnd (g t) n)⟩) ih) (ob O x)) ih (qIdle x)) xs
theorem kund_ok {t : F} {n : Nat} : ∀ (xs : List Operand), (kund O xs).f t n = true → ∀ x ∈ xs, under 4 n ((ob O x).f t) = true
  | [], _, _, h => by cases h
  | x :: xs, h, y, hy => by
    cases hi : qIdle x with
    | true =>
      have e : kund O (x :: xs) = kund O xs := by
        show (Bool.rec (motive := fun _ => KU F) (Gtt.rec (motive := fun _ => KU F) (fun g => KU.rec (motive := fun _ => KU F) (fun r => ⟨fun t n => Bool.rec (motive := fun _ => Bool) false (r t n) (qUnd (g t) n)⟩) (kund O xs)) (ob O x)) (kund O xs) (qIdle x) : KU F) = _
        rw [hi]
      rw [e] at h
      rcases List.mem_cons.1 hy with rfl | hy
      · cases y with
        | tmp k => cases hi
        | const v => exact qPlain_ok hi
        | global g => cases hi
        | func f => rfl
      · exact kund_ok xs h y hy
    | false =>
      have e : (kund O (x :: xs)).f t n = Bool.rec (motive := fun _ => Bool) false ((kund O xs).f t n) (qUnd ((ob O x).f t) n) := by
        show (Bool.rec (motive := fun _ => KU F) (Gtt.rec (motive := fun _ => KU F) (fun g => KU.rec (motive := fun _ => KU F) (fun r => ⟨fun t n => Bool.rec (motive := fun _ => Bool) false (r t n) (qUnd (g t) n)⟩) (kund O xs)) (ob O x)) (kund O xs) (qIdle x) : KU F).f t n = _
        rw [hi]
      rw [e] at h
      cases hq : qUnd ((ob O x).f t) n with
      | false => rw [hq] at h; cases h
      | true =>
        rw [hq] at h
        rcases List.mem_cons.1 hy with rfl | hy
        · exact qUnd_ok hq
        · exact kund_ok xs h y hy
noncomputable def qHead (h : List AS) (c : AS → Ans) : Ans := List.rec (motive := fun _ => (AS → Ans) → Ans) (fun _ => failAt 80) (fun a _ _ c => c a) h c
def readAllR (P : Program) (ρ : Operand → Value) (o : Oper) : List AS → Option Value
  | [] => none
  | A :: As => if (o.op.operands.toList.all fun x => under 4 A.next (ρ x)) then match aExec P ρ o A with
      | some (.value v, _) => match As with
        | [] => some v
        | _ => match readAllR P ρ o As with
          | some u => if eqV 4 v u then some u else none
          | none => none
      | _ => none
    else none
theorem readAllR_eq (fr : Fr) (o : Oper) : ∀ (l : List AS), readAllR P (ev fr) o l = readAll P fr o l
  | [] => rfl
  | A :: As => by
    unfold readAllR readAll
    rw [readAllR_eq fr o As]
    rfl
noncomputable def kfailD (n : Nat) : KD F := ⟨fun _ _ _ _ _ => failAt n⟩
noncomputable def readT (P : Program) (ρ : Operand → Value) (o : Oper) : List AS → (Value → Tree) → Tree
  | [], _ => failAt 82
  | A :: As, c => .node (o.op.operands.toList.all fun x => under 4 A.next (ρ x)) (.opt (aExec P ρ o A) (fun x => ANext.rec (motive := fun _ => Tree) (fun v => match As with
      | [] => c v
      | B :: Bs => readT P ρ o (B :: Bs) (fun u => .node (eqV 4 v u) (c u) (failAt 82))) (failAt 82) (fun _ _ => failAt 82) (fun _ => failAt 82) (fun _ _ => failAt 82) x.1)) (failAt 82)
theorem readT_ok {P : Program} {ρ : Operand → Value} {o : Oper} {R : Value × AS} : ∀ {l : List AS} {c : Value → Tree}, Tree.eval (readT P ρ o l c) = some R → ∃ v, readAllR P ρ o l = some v ∧ Tree.eval (c v) = some R
  | [], _, h => (failAt_ne h).elim
  | A :: As, c, h => by
    unfold readT at h
    unfold readAllR
    cases hu : (o.op.operands.toList.all fun x => under 4 A.next (ρ x)) with
    | false => rw [hu] at h; exact (failAt_ne h).elim
    | true =>
      rw [hu] at h
      rw [if_pos rfl]
      cases hx : aExec P ρ o A with
      | none => rw [hx] at h; exact (failAt_ne h).elim
      | some x =>
        obtain ⟨nx, A'⟩ := x
        rw [hx] at h
        cases nx with
        | value v =>
          cases As with
          | nil => exact ⟨v, rfl, h⟩
          | cons B Bs =>
            have h : Tree.eval (readT P ρ o (B :: Bs) (fun u => .node (eqV 4 v u) (c u) (failAt 82))) = some R := h
            obtain ⟨u, h1, h2⟩ := readT_ok h
            cases he : eqV 4 v u with
            | false => rw [he] at h2; exact (failAt_ne h2).elim
            | true =>
              rw [he] at h2
              refine ⟨u, ?_, h2⟩
              show (match readAllR P ρ o (B :: Bs) with
                | some u => if eqV 4 v u then some u else none
                | none => none) = some u
              rw [h1]
              show (if eqV 4 v u then some u else none) = some u
              rw [he, if_pos rfl]
        | skip => exact (failAt_ne h).elim
        | enter f args => exact (failAt_ne h).elim
        | defer d => exact (failAt_ne h).elim
        | round l args => exact (failAt_ne h).elim
noncomputable def dread (o : Oper) (lag : Nat) : KD F :=
  Option.rec (motive := fun _ => KD F) (kfailD 81) (fun s => Stt.rec (motive := fun _ => KD F) (fun s => ⟨fun _ k t A h =>
    readT P (fun x => (ob O x).f t) o (h.take (lag + 1)) (fun v => k (s v t) A h)⟩) s) (stOf O N o.dst)
noncomputable def dkind (s : PStep) (o : Oper) : KD F :=
  Cls.rec (motive := fun _ => KO' F → KU F → KD F)
    (fun κ _ => KO'.rec (motive := fun _ => KD F) (fun f => ⟨fun E k t A h => f E (fun t A => k t A h) t A⟩) κ)
    (fun κ u => Nat.rec (motive := fun _ => KD F)
      (KO'.rec (motive := fun _ => KU F → KD F) (fun f u => KU.rec (motive := fun _ => KD F) (fun u => ⟨fun E k t A h => qHead h (fun h0 => qIf (u t h0.next) (f E (fun t _ => k t A h) t h0) (failAt 83))⟩) u) κ u)
      (fun _ _ => dread P O N o s.lag) s.lag)
    (fun κ u => KO'.rec (motive := fun _ => KU F → KD F) (fun f u => KU.rec (motive := fun _ => KD F) (fun u => ⟨fun E k t A h => qIf (u t A.next) (f E (fun t A => k t A h) t A) (failAt 84)⟩) u) κ u)
    (fun κ u => KO'.rec (motive := fun _ => KU F → KD F) (fun f u => KU.rec (motive := fun _ => KD F)
      (fun u => ⟨fun E k t A h => qIf (u t A.next) (f E (fun t B => qIf (Nat.ble A.next B.next) (k t B (B :: h)) (failAt 85)) t A) (failAt 86)⟩) u) κ u)
    s.c (jop P O N o) (kund O (jops o.op))
noncomputable def dunwanted (s : PStep) (o : Oper) (g : Gtt F) (want : Bool) (κ : KD F) : KD F :=
  Option.rec (motive := fun _ => KD F) (kfailD 87) (fun st => Stt.rec (motive := fun _ => KD F) (fun st => Gtt.rec (motive := fun _ => KD F) (fun g => KD.rec (motive := fun _ => KD F) (fun f =>
    ⟨fun E k t A h => .node (qWant (g t) want) (f E k t A h) (k (st undef t) A (Cls.rec (motive := fun _ => List AS) h h h (A :: h) s.c))⟩) κ) g) st) (stOf O N o.dst)
noncomputable def dstep (s : PStep) : KD F := match nthO ops.toList s.i with
  | none => kfailD 88
  | some o => match jopOk o.op with
    | false => kfailD 89
    | true => match o.guard with
      | none => dkind P O N s o
      | some (g, want) => match nthO ops.toList g with
        | none => kfailD 90
        | some q => match q.dst with
          | none => kfailD 91
          | some p => dunwanted O N s o (O.get p) want (dkind P O N s { o with guard := none })
noncomputable def dchain (ss : List PStep) : KD F :=
  List.rec (motive := fun _ => KD F) ⟨fun _ k t A h => k t A h⟩ (fun s _ ih => KD.rec (motive := fun _ => KD F → KD F) (fun f ih => KD.rec (motive := fun _ => KD F) (fun r => ⟨fun E k t A h => f E (r E k) t A h⟩) ih) (dstep P O N ops s) ih) ss
noncomputable def kdraw : KO' F := match qplan P ops with
  | none => kfail 92
  | some ss => KD.rec (motive := fun _ => KO' F) (fun f => ⟨fun E k t A => f E (fun t A _ => k t A) t A [A]⟩) (dchain P O N ops ss)
end
variable {F : Type} {P : Program} {O : FO F} {N : Nat} {fid : FuncId} {rd : Bool} {call : Nat → Calls2} {ops : Array Oper}
def StepOk (P : Program) (O : FO F) (N : Nat) (fid : FuncId) (rd : Bool) (call : Nat → Calls2) (ops : Array Oper) (s : PStep) (κ : KD F) : Prop :=
  ∀ E, EOk E call → ∀ t fr A hist k R, FRel O N fid rd t fr → Tree.eval (κ.f E k t A hist) = some R →
    ∃ fr' A' hist' t', Ev (fun m => drawStep P (call m) ops s fr A hist = some (fr', A', hist')) ∧ FRel O N fid rd t' fr' ∧ Tree.eval (k t' A' hist') = some R
theorem kfailD_ok {s : PStep} (n : Nat) : StepOk P O N fid rd call ops s (kfailD n) := fun _ _ _ _ _ _ _ _ _ h => (failAt_ne h).elim
theorem eval_value {cc : Calls2} {o : Oper} {fr fr' : Fr} {A A' : AS} (hg : o.guard = none) (hk : ∀ nx A', aExec P (ev fr) o A = some (nx, A') → ∃ v, nx = .value v)
    (h : evalOp P cc ops o fr A = some (fr', A')) : ∃ v, aExec P (ev fr) o A = some (.value v, A') ∧ fr.put o.dst v = some fr' := by
  unfold evalOp at h
  rw [want_none hg] at h
  simp only [if_true] at h
  split at h
  · split at h
    · rename_i v A1 hx
      split at h
      · rename_i fr1 hp
        simp only [Option.some.injEq, Prod.mk.injEq] at h
        obtain ⟨rfl, rfl⟩ := h
        exact ⟨v, hx, hp⟩
      · cases h
    · rename_i hx; obtain ⟨v, hv⟩ := hk _ _ hx; cases hv
    · rename_i hx; obtain ⟨v, hv⟩ := hk _ _ hx; cases hv
    · rename_i hx; obtain ⟨v, hv⟩ := hk _ _ hx; cases hv
    · rename_i hx; obtain ⟨v, hv⟩ := hk _ _ hx; cases hv
    · cases h
  · cases h
theorem Ev.get {p : Nat → Prop} : Ev p → ∃ m, p m
  | ⟨m, h⟩ => ⟨m, h m (Nat.le_refl _)⟩
def StepIn (P : Program) (cc : Calls2) (ops : Array Oper) (s : PStep) (o : Oper) (fr : Fr) (A : AS) (hist : List AS) : Option (Fr × AS × List AS) := match s.c with
  | .pure => match aExec P (ev fr) o A with
    | some (.value v, _) => match fr.put o.dst v with
      | some fr' => some (fr', A, hist)
      | none => none
    | _ => none
  | .read => match readAll P fr o (hist.take (s.lag + 1)) with
    | some v => match fr.put o.dst v with
      | some fr' => some (fr', A, hist)
      | none => none
    | none => none
  | .alloc => if opsUnder fr o A.next then match aExec P (ev fr) o A with
      | some (.value v, A') => match fr.put o.dst v with
        | some fr' => some (fr', A', hist)
        | none => none
      | _ => none
    else none
  | .effect => if opsUnder fr o A.next then match evalOp P cc ops o fr A with
      | some (fr', A') => if Nat.ble A.next A'.next then some (fr', A', A' :: hist) else none
      | none => none
    else none
theorem under_all (hF : Fit O N) {t : F} {fr : Fr} (hr : FRel O N fid rd t fr) {o : Oper} {n : Nat} (h : (kund O (jops o.op)).f t n = true) : opsUnder fr o n = true := by
  rw [jops_eq] at h
  simp only [opsUnder, List.all_eq_true]
  intro x hx
  rw [← hr.ob hF.ok]
  exact kund_ok O _ h x hx
theorem dkind_ok (hF : Fit O N) {s : PStep} {o : Oper} (hok : opOk o = true) (hg : o.guard = none) (hk : cls P o.op = s.c) :
    ∀ E, EOk E call → ∀ t fr A hist k R, FRel O N fid rd t fr → Tree.eval ((dkind P O N s o).f E k t A hist) = some R →
      ∃ fr' A' hist' t', Ev (fun m => StepIn P (call m) ops s o fr A hist = some (fr', A', hist')) ∧ FRel O N fid rd t' fr' ∧ Tree.eval (k t' A' hist') = some R := by
  intro E hE t fr A hist k R hr h
  have hκ := kop1_ok (P := P) (fid := fid) (rd := rd) (call := call) (ops := ops) hF hok hg
  rw [← jop_eq] at hκ
  obtain ⟨i, c, lag⟩ := s
  simp only at hk
  cases c with
  | pure =>
    have h : Tree.eval ((jop P O N o).f E (fun t A => k t A hist) t A) = some R := h
    obtain ⟨fr', A', t', h1, h2, h3⟩ := hκ E hE t fr A _ R hr h
    obtain ⟨m, hm⟩ := h1.get
    obtain ⟨v, hx, hp⟩ := eval_value hg (fun nx A' hx => (exec_pure hk hx).2.1) hm
    have hA := (exec_pure hk hx).1
    subst hA
    exact ⟨fr', A', hist, t', .of fun _ => by simp only [StepIn, hx, hp], h2, h3⟩
  | alloc =>
    have h : Tree.eval (qIf ((kund O (jops o.op)).f t A.next) ((jop P O N o).f E (fun t A => k t A hist) t A) (failAt 84)) = some R := h
    obtain ⟨hu, h⟩ := qIf_ok h
    obtain ⟨fr', A', t', h1, h2, h3⟩ := hκ E hE t fr A _ R hr h
    obtain ⟨m, hm⟩ := h1.get
    obtain ⟨v, hx, hp⟩ := eval_value hg (fun nx A' hx => by obtain ⟨v, _, hv, _⟩ := exec_alloc hk hx; exact ⟨v, hv⟩) hm
    exact ⟨fr', A', hist, t', .of fun _ => by simp only [StepIn, under_all hF hr hu, if_true, hx, hp], h2, h3⟩
  | effect =>
    have h : Tree.eval (qIf ((kund O (jops o.op)).f t A.next) ((jop P O N o).f E (fun t B => qIf (Nat.ble A.next B.next) (k t B (B :: hist)) (failAt 85)) t A) (failAt 86)) = some R := h
    obtain ⟨hu, h⟩ := qIf_ok h
    obtain ⟨fr', A', t', h1, h2, h3⟩ := hκ E hE t fr A _ R hr h
    obtain ⟨hn, h3⟩ := qIf_ok h3
    exact ⟨fr', A', A' :: hist, t', h1.imp fun m hm => by simp only [StepIn, under_all hF hr hu, if_true, hm, hn], h2, h3⟩
  | read =>
    cases lag with
    | zero =>
      have h : Tree.eval (qHead hist (fun h0 => qIf ((kund O (jops o.op)).f t h0.next) ((jop P O N o).f E (fun t _ => k t A hist) t h0) (failAt 83))) = some R := h
      cases hist with
      | nil => exact (failAt_ne h).elim
      | cons h0 hs =>
        have h : Tree.eval (qIf ((kund O (jops o.op)).f t h0.next) ((jop P O N o).f E (fun t _ => k t A (h0 :: hs)) t h0) (failAt 83)) = some R := h
        obtain ⟨hu, h⟩ := qIf_ok h
        obtain ⟨fr', A', t', h1, h2, h3⟩ := hκ E hE t fr h0 _ R hr h
        obtain ⟨m, hm⟩ := h1.get
        obtain ⟨v, hx, hp⟩ := eval_value hg (fun nx A' hx => (exec_read hk hx).2) hm
        refine ⟨fr', A, h0 :: hs, t', .of fun _ => ?_, h2, h3⟩
        simp only [StepIn, Nat.zero_add, List.take_succ_cons, List.take_zero, readAll, under_all hF hr hu, if_true, hx, hp]
    | succ lag =>
      have h : Tree.eval ((dread P O N o (lag + 1)).f E k t A hist) = some R := h
      unfold dread at h
      cases hs : stOf O N o.dst with
      | none => rw [hs] at h; exact (failAt_ne h).elim
      | some st =>
        rw [hs] at h
        have h : Tree.eval (readT P (fun x => (ob O x).f t) o (hist.take (lag + 1 + 1)) (fun v => k (st.f v t) A hist)) = some R := h
        have hρ : (fun x => (ob O x).f t) = ev fr := funext (hr.ob hF.ok)
        rw [hρ] at h
        obtain ⟨v, hv, h⟩ := readT_ok h
        rw [readAllR_eq] at hv
        obtain ⟨fr', hp, hr'⟩ := hr.put hF.ok hF.cap hs v
        exact ⟨fr', A, hist, _, .of fun _ => by simp only [StepIn, hv, hp], hr', h⟩
theorem drawStep_in {cc : Calls2} {s : PStep} {o : Oper} {fr : Fr} {A : AS} {hist : List AS} (ho : ops[s.i]? = some o) (hok : opOk o = true) (hw : Region.wanted o (yieldedA ops fr) = true) :
    drawStep P cc ops s fr A hist = StepIn P cc ops s { o with guard := none } fr A hist := by
  unfold drawStep StepIn
  rw [ho]
  simp only [hw, hok, if_true]
  have e1 : ∀ A, aExec P (ev fr) { o with guard := none } A = aExec P (ev fr) o A := fun _ => rfl
  have e2 : ∀ l, readAll P fr { o with guard := none } l = readAll P fr o l := by
    intro l
    induction l with
    | nil => rfl
    | cons A As ih =>
      unfold readAll
      rw [ih]
      rfl
  have e3 : ∀ n, opsUnder fr { o with guard := none } n = opsUnder fr o n := fun _ => rfl
  have e4 : evalOp P cc ops { o with guard := none } fr A = evalOp P cc ops o fr A := (evalOp_guard hw).symm
  rw [e1, e2, e3, e4]
  cases s.c <;> rfl
theorem dstep_ok (hF : Fit O N) {s : PStep} (hk : ∃ o, ops[s.i]? = some o ∧ cls P o.op = s.c) : StepOk P O N fid rd call ops s (dstep P O N ops s) := by
  obtain ⟨o, ho, hk⟩ := hk
  have ho' : nthO ops.toList s.i = some o := by rw [nthO_eq]; simpa using ho
  unfold dstep
  rw [ho']
  simp only
  split
  · exact kfailD_ok 89
  · rename_i hok
    rw [jopOk_eq] at hok
    split
    · rename_i hg
      intro E hE t fr A hist k R hr h
      obtain ⟨fr', A', hist', t', h1, h2, h3⟩ := dkind_ok (ops := ops) hF hok hg hk E hE t fr A hist k R hr h
      refine ⟨fr', A', hist', t', h1.imp fun m hm => ?_, h2, h3⟩
      rw [drawStep_in ho hok (want_none hg _)]
      have : ({ o with guard := none } : Oper) = o := by cases o; simp only at hg; subst hg; rfl
      rw [this]; exact hm
    · rename_i g want hg
      split
      · exact kfailD_ok 90
      · rename_i q hq
        rw [nthO_eq] at hq
        have hq : ops[g]? = some q := by rw [← hq]; simp
        split
        · exact kfailD_ok 91
        · rename_i p hp
          intro E hE t fr A hist k R hr h
          unfold dunwanted at h
          cases hs : stOf O N o.dst with
          | none => rw [hs] at h; exact (failAt_ne h).elim
          | some st =>
            rw [hs] at h
            have h : Tree.eval (Tree.node (qWant ((O.get p).f t) want) ((dkind P O N s { o with guard := none }).f E k t A hist) (k (st.f undef t) A (Cls.rec (motive := fun _ => List AS) hist hist hist (A :: hist) s.c))) = some R := h
            have hy : yieldedA ops fr g = (match (O.get p).f t with | .bool b => some b | _ => none) := by
              simp only [yieldedA, hq, hp, hF.ok.get _ _ hr.rel]
              cases hv : fr.t.get p with
              | none => rfl
              | some u => cases u <;> rfl
            rw [qWant_eq] at h
            cases hw : fWant ((O.get p).f t) want with
            | true =>
              rw [hw] at h
              have hwant : Region.wanted o (yieldedA ops fr) = true := by
                simp only [Region.wanted, hg, hy]
                unfold fWant at hw
                split at hw
                · rename_i hv; rw [hv]; simpa using hw.symm
                · rename_i hv; rw [hv]; cases want <;> simp_all
                · cases hw
              obtain ⟨fr', A', hist', t', h1, h2, h3⟩ := dkind_ok (ops := ops) (o := { o with guard := none }) hF hok rfl hk E hE t fr A hist k R hr h
              exact ⟨fr', A', hist', t', h1.imp fun m hm => by rw [drawStep_in ho hok hwant]; exact hm, h2, h3⟩
            | false =>
              rw [hw] at h
              have hwant : Region.wanted o (yieldedA ops fr) = false := by
                simp only [Region.wanted, hg, hy]
                unfold fWant at hw
                split at hw
                · rename_i hv; rw [hv]; simp [hw]
                · rename_i hv; rw [hv]; cases want <;> simp_all
                · rename_i h1 h2
                  split
                  · rename_i b hv; cases b
                    · exact absurd hv h2
                    · exact absurd hv h1
                  · rfl
              obtain ⟨fr', hput, hr'⟩ := hr.put hF.ok hF.cap hs undef
              refine ⟨fr', A, _, _, .of fun m => ?_, hr', h⟩
              unfold drawStep
              rw [ho]
              simp only [hwant, hput, Bool.false_eq_true, if_false]
              cases s.c <;> rfl
theorem dchain_ok (hF : Fit O N) : ∀ (ss : List PStep), (∀ s ∈ ss, ∃ o, ops[s.i]? = some o ∧ cls P o.op = s.c) → ∀ E, EOk E call → ∀ t fr A hist k R, FRel O N fid rd t fr →
    Tree.eval ((dchain P O N ops ss).f E k t A hist) = some R → ∃ fr' A' hist' t', Ev (fun m => drawGo P (call m) ops ss fr A hist = some (fr', A')) ∧ FRel O N fid rd t' fr' ∧ Tree.eval (k t' A' hist') = some R
  | [], _, E, hE, t, fr, A, hist, k, R, hr, h => ⟨fr, A, hist, t, .of fun _ => rfl, hr, h⟩
  | s :: ss, hk, E, hE, t, fr, A, hist, k, R, hr, h => by
    have h : Tree.eval ((dstep P O N ops s).f E ((dchain P O N ops ss).f E k) t A hist) = some R := h
    obtain ⟨fr1, A1, hist1, t1, h1, hr1, h⟩ := dstep_ok hF (hk s (List.mem_cons_self ..)) E hE t fr A hist _ R hr h
    obtain ⟨fr2, A2, hist2, t2, h2, hr2, h⟩ := dchain_ok hF ss (fun s hs => hk s (List.mem_cons_of_mem _ hs)) E hE t1 fr1 A1 hist1 k R hr1 h
    exact ⟨fr2, A2, hist2, t2, (h1.and h2).imp fun m ⟨a, b⟩ => by simp only [drawGo, a, b], hr2, h⟩
theorem kdraw_ok (hF : Fit O N) : ∀ E, EOk E call → ∀ t fr A k R, FRel O N fid rd t fr → Tree.eval ((kdraw P O N ops).f E k t A) = some R →
    ∃ fr' A' t', Ev (fun m => drawP P (qplan P) (call m) ops fr A = some (fr', A')) ∧ FRel O N fid rd t' fr' ∧ Tree.eval (k t' A') = some R := by
  intro E hE t fr A k R hr h
  unfold kdraw at h
  split at h
  · exact (failAt_ne h).elim
  · rename_i ss hpl
    have h : Tree.eval ((dchain P O N ops ss).f E (fun t A _ => k t A) t A [A]) = some R := h
    have hp := qplan_ok hpl
    obtain ⟨fr', A', hist', t', h1, h2, h3⟩ := dchain_ok hF ss (fun s hs => by obtain ⟨j, hj⟩ := List.getElem?_of_mem hs; exact hp.kind j s hj) E hE t fr A [A] _ R hr h
    exact ⟨fr', A', t', h1.imp fun m hm => by simp only [drawP, hpl, hm], h2, h3⟩
end Go.Dp.Tr
namespace Go.Dp.Tr
open Go Go.Dp
abbrev KK' (F : Type) := F → AS → Ans
structure KC (F : Type) where
  f : KE → KK' F → KK' F → (Nat → KK' F) → F → AS → Ans
def loopMost : Nat := 100000000
noncomputable def kloop {F : Type} (b : KE → KK' F → KK' F → (Nat → KK' F) → F → AS → Ans) (E : KE) (kr : KK' F) (kx : Nat → KK' F) (n : Nat) : F → AS → Ans :=
  Nat.rec (motive := fun _ => F → AS → Ans) (fun _ _ => failAt 60) (fun _ ih t A => b E ih kr kx t A) n
noncomputable def kloopS {F : Type} (b : KE → KK' F → KK' F → (Nat → KK' F) → F → AS → Ans) (E : KE) (kr : KK' F) (kx : Nat → KK' F) (t : F) (A : AS) : Ans := kloop b E kr kx loopMost t A
noncomputable def qLoop (A : AS) (B : Nat) (c : FuncId → Trie Value → Nat → Array Tmp → Code → Code → LoopState → Option Code → Nat → Ans) : Ans :=
  Option.rec (motive := fun _ => (FuncId → Trie Value → Nat → Array Tmp → Code → Code → LoopState → Option Code → Nat → Ans) → Ans) (fun _ => failAt 110)
    (fun o c => AObj.rec (motive := fun _ => (FuncId → Trie Value → Nat → Array Tmp → Code → Code → LoopState → Option Code → Nat → Ans) → Ans) (fun _ _ _ _ => failAt 111) (fun _ _ _ => failAt 112) (fun _ _ _ => failAt 113)
      (fun _ _ _ _ _ => failAt 114) (fun fn t nt ps a b st pd dl c => c fn t nt ps a b st pd dl) (fun _ => failAt 115) o c) (hget A.heap B) c
theorem qLoop_ok {A : AS} {B : Nat} {c : FuncId → Trie Value → Nat → Array Tmp → Code → Code → LoopState → Option Code → Nat → Ans} {R : Value × AS} (h : Tree.eval (qLoop A B c) = some R) :
    ∃ fn t nt ps a b st pd dl, A.get B = some (.loop fn t nt ps a b st pd dl) ∧ Tree.eval (c fn t nt ps a b st pd dl) = some R := by
  unfold qLoop at h
  cases hg : hget A.heap B with
  | none => rw [hg] at h; exact (failAt_ne h).elim
  | some o =>
    rw [hg] at h
    cases o <;> first | exact ⟨_, _, _, _, _, _, _, _, _, hget_ok hg, h⟩ | exact (failAt_ne h).elim
noncomputable def qJump {F : Type} (kr : KK' F) (kx : Nat → KK' F) (c : Code) : KK' F := match c with
  | .exit i => kx i
  | .ret => kr
  | _ => fun _ _ => failAt 116
noncomputable def qFun (v : Value) (c : FuncId → List Value → List Value → Ans) : Ans := match v with
  | .func (.func g) xs us => c g xs.toList us.toList
  | _ => failAt 117
theorem qFun_ok {v : Value} {c : FuncId → List Value → List Value → Ans} {R : Value × AS} (h : Tree.eval (qFun v c) = some R) : ∃ g xs us, v = .func (.func g) xs us ∧ Tree.eval (c g xs.toList us.toList) = some R := by
  unfold qFun at h
  split at h
  · exact ⟨_, _, _, rfl, h⟩
  · exact (failAt_ne h).elim
noncomputable def qPut (A : AS) (B : Nat) (o : Option AObj) : AS := AS.mk (hset A.heap B o) A.next A.ro
theorem qPut_eq (A : AS) (B : Nat) (o : Option AObj) : qPut A B o = A.put B o := by
  unfold qPut
  rw [hset_eq]; rfl
def notBusy (st : LoopState) : Bool := match st with
  | .busy => false
  | _ => true
section
variable {F : Type} (P : Program) (O : FO F) (N : Nat) (fid : FuncId) (rd : Bool)
noncomputable def krange (f : Operand) (params : Array Tmp) (assign body : Code) : KC F := match O.tr, rd, opndOk f with
  | some r, false, true => ⟨fun E kn kr kx t A => qFun ((ob O f).f t) (fun g xs us => qIf (kop1.qHasBody P g)
      (E.call g (xs ++ [.func (.yield (A.next + 1)) #[] #[]] ++ us) ((A.new .dlist).new (.loop fid (r.t t) N params assign body .ready none A.next)) (fun _ A3 =>
        qLoop A3 (A.next + 1) (fun fn t' nt ps a b st pd dl => qIf (notBusy st && Nat.ble A3.ro (A.next + 1))
          (Option.rec (motive := fun _ => KK' F) kn (fun c => qJump kr kx c) pd (r.push { target := .collected A.next, args := #[] } t) (qPut A3 (A.next + 1) (some (.loop fn t' nt ps a b .exhausted pd dl)))) (failAt 118)))) (failAt 119))⟩
  | _, _, _ => ⟨fun _ _ _ _ _ _ => failAt 61⟩
noncomputable def kcode' (c : Code) : KC F :=
  Code.rec (motive := fun _ => KC F)
    ⟨fun _ kn _ _ t A => kn t A⟩
    (fun _ ops dr => Bool.rec (motive := fun _ => KC F)
      (KO'.rec (motive := fun _ => KC F) (fun f => ⟨fun E kn _ _ t A => f E kn t A⟩) (kchain P O N ops ops.toList))
      (KO'.rec (motive := fun _ => KC F) (fun f => ⟨fun E kn _ _ t A => f E kn t A⟩) (kdraw P O N ops)) dr)
    (fun _ _ a b => KC.rec (motive := fun _ => KC F → KC F) (fun f b => KC.rec (motive := fun _ => KC F) (fun g => ⟨fun E kn kr kx t A => f E (g E kn kr kx) kr kx t A⟩) b) a b)
    (fun c _ _ a b => Gtt.rec (motive := fun _ => KC F → KC F → KC F) (fun v a b => KC.rec (motive := fun _ => KC F → KC F) (fun f b => KC.rec (motive := fun _ => KC F)
      (fun g => ⟨fun E kn kr kx t A => qBool (v t) (fun x => .node x (f E kn kr kx t A) (g E kn kr kx t A))⟩) b) a b) (ob O c) a b)
    (fun id _ b => KC.rec (motive := fun _ => KC F) (fun f => ⟨fun E kn kr kx t A => f E kn kr (fun i => Bool.rec (motive := fun _ => KK' F) (kx i) kn (Nat.beq i id)) t A⟩) b)
    (fun _ b => KC.rec (motive := fun _ => KC F) (fun f => ⟨fun E _ kr kx t A => kloopS f E kr kx t A⟩) b)
    (fun f params assign body _ _ => krange P O N fid rd f params assign body)
    (fun id => ⟨fun _ _ _ kx t A => kx id t A⟩)
    (fun _ b => b)
    (fun _ => ⟨fun _ kn _ _ t A => kn t A⟩)
    (fun _ => ⟨fun _ _ _ _ _ _ => failAt 62⟩)
    ⟨fun _ _ kr _ t A => kr t A⟩
    (fun _ => ⟨fun _ _ _ _ _ _ => failAt 63⟩) c
end
def Ev2 (p : Nat → Nat → Prop) : Prop := ∃ m0, ∀ m j, m0 ≤ m → m0 ≤ j → p m j
theorem Ev2.of {p : Nat → Nat → Prop} (h : ∀ m j, p m (j + 1)) : Ev2 p := ⟨1, fun m j _ hj => by
  obtain ⟨j, rfl⟩ : ∃ i, j = i + 1 := ⟨j - 1, by omega⟩
  exact h m j⟩
theorem Ev.two {p : Nat → Prop} {q : Nat → Nat → Prop} (h : ∀ m j, p m → q m (j + 1)) : Ev p → Ev2 q
  | ⟨a, ha⟩ => ⟨a + 1, fun m j hm hj => by
    obtain ⟨j, rfl⟩ : ∃ i, j = i + 1 := ⟨j - 1, by omega⟩
    exact h m j (ha m (by omega))⟩
theorem Ev2.up {p q : Nat → Nat → Prop} (h : ∀ m j, p m j → q m (j + 1)) : Ev2 p → Ev2 q
  | ⟨a, ha⟩ => ⟨a + 1, fun m j hm hj => by
    obtain ⟨j, rfl⟩ : ∃ i, j = i + 1 := ⟨j - 1, by omega⟩
    exact h m j (ha m j (by omega) (by omega))⟩
theorem Ev2.and {p q : Nat → Nat → Prop} : Ev2 p → Ev2 q → Ev2 fun m j => p m j ∧ q m j
  | ⟨a, ha⟩, ⟨b, hb⟩ => ⟨max a b, fun m j hm hj => ⟨ha m j (by omega) (by omega), hb m j (by omega) (by omega)⟩⟩
variable {F : Type} {P : Program} {O : FO F} {N : Nat} {fid : FuncId} {rd : Bool} {call : Nat → Calls2}
def Goes (kn kr : KK' F) (kx : Nat → KK' F) (ex : AExit) (t : F) (A : AS) (R : Value × AS) : Prop := match ex with
  | .normal => Tree.eval (kn t A) = some R
  | .exit i => Tree.eval (kx i t A) = some R
  | .ret => Tree.eval (kr t A) = some R
  | .goto _ => False
def CodeOk (P : Program) (O : FO F) (N : Nat) (fid : FuncId) (rd : Bool) (call : Nat → Calls2) (c : Code) (κ : KE → KK' F → KK' F → (Nat → KK' F) → F → AS → Ans) : Prop :=
  ∀ E, EOk E call → ∀ kn kr kx t fr A R, FRel O N fid rd t fr → Tree.eval (κ E kn kr kx t A) = some R →
    ∃ ex fr' A' t', Ev2 (fun m j => evalCode P (call m) (drawP P (qplan P) (call m)) j c fr A = some (ex, fr', A')) ∧ FRel O N fid rd t' fr' ∧ Goes kn kr kx ex t' A' R
theorem kloop_ok {b : Code} {f : KE → KK' F → KK' F → (Nat → KK' F) → F → AS → Ans} (hb : CodeOk P O N fid rd call b f) {E : KE} (hE : EOk E call) {kn kr : KK' F} {kx : Nat → KK' F} {R : Value × AS} :
    ∀ n t fr A, FRel O N fid rd t fr → Tree.eval (kloop f E kr kx n t A) = some R →
    ∃ ex fr' A' t', Ev2 (fun m j => evalCode P (call m) (drawP P (qplan P) (call m)) j (.loop b) fr A = some (ex, fr', A')) ∧ FRel O N fid rd t' fr' ∧ Goes kn kr kx ex t' A' R
  | 0, t, fr, A, hr, h => (failAt_ne h).elim
  | n + 1, t, fr, A, hr, h => by
    have h : Tree.eval (f E (kloop f E kr kx n) kr kx t A) = some R := h
    obtain ⟨ex, fr1, A1, t1, h1, hr1, hg⟩ := hb E hE _ _ _ t fr A R hr h
    cases ex with
    | normal =>
      obtain ⟨ex2, fr2, A2, t2, h2, hr2, hg2⟩ := kloop_ok hb hE n t1 fr1 A1 hr1 hg
      exact ⟨ex2, fr2, A2, t2, (h1.and h2).up fun m j ⟨a, c⟩ => by simp only [evalCode, evalStep, a, c], hr2, hg2⟩
    | exit i => exact ⟨.exit i, fr1, A1, t1, h1.up fun m j a => by simp only [evalCode, evalStep, a], hr1, hg⟩
    | ret => exact ⟨.ret, fr1, A1, t1, h1.up fun m j a => by simp only [evalCode, evalStep, a], hr1, hg⟩
    | goto l => exact hg.elim
theorem evalCode_range (P : Program) (c : Calls2) (d : Array Oper → Fr → AS → Option (Fr × AS)) (j : Nat) (f : Operand) (ps : Array Tmp) (a b : Code) (fr : Fr) (A : AS) :
    evalCode P c d (j + 1) (.rangeFunc f ps a b) fr A = evalStep P c d (evalCode P c d j) (.rangeFunc f ps a b) fr A := by simp only [evalCode]
theorem krange_ok (hF : Fit O N) (f : Operand) (params : Array Tmp) (assign body : Code) : CodeOk P O N fid rd call (.rangeFunc f params assign body) (krange P O N fid rd f params assign body).f := by
  intro E hE kn kr kx t fr A R hr h
  unfold krange at h
  split at h
  · rename_i r htr hok
    dsimp only at h
    obtain ⟨g, xs, us, hv, h⟩ := qFun_ok h
    rw [hr.ob hF.ok] at hv
    obtain ⟨hb, h⟩ := qIf_ok h
    obtain ⟨v, A3, hcall, h⟩ := hE.call _ _ _ _ _ h
    obtain ⟨fn, t', nt, ps, a, b, st, pd, dl, hg, h⟩ := qLoop_ok h
    obtain ⟨hst, h⟩ := qIf_ok h
    simp only [Bool.and_eq_true] at hst
    obtain ⟨hst, hro⟩ := hst
    obtain ⟨ht, hds, _, hpush⟩ := hF.ok.tr r htr t fr hr.rel
    rw [qPut_eq] at h
    have hr' : FRel O N fid false (r.push { target := .collected A.next, args := #[] } t) { fr with defers := { target := .collected A.next, args := #[] } :: fr.defers } := ⟨hpush _, hr.nt, hr.fn, hr.rd⟩
    have hstep : ∀ (m : Nat) (ih : Code → Fr → AS → Ran), (call m).call g (xs.toList ++ [.func (.yield (A.next + 1)) #[] #[]] ++ us.toList) ((A.new .dlist).new (.loop fid (r.t t) N params assign body .ready none A.next)) = some (v, A3) →
        evalStep P (call m) (drawP P (qplan P) (call m)) ih (.rangeFunc f params assign body) fr A =
          match pd with
          | none => some (.normal, { fr with defers := { target := .collected A.next, args := #[] } :: fr.defers }, A3.put (A.next + 1) (some (.loop fn t' nt ps a b .exhausted pd dl)))
          | some c => ih c { fr with defers := { target := .collected A.next, args := #[] } :: fr.defers } (A3.put (A.next + 1) (some (.loop fn t' nt ps a b .exhausted pd dl))) := by
      intro m ih hm
      have e1 : (A.new .dlist).next = A.next + 1 := rfl
      simp only [evalStep, hr.rd, Bool.false_eq_true, if_false, hv, e1, qHasBody_ok P hb, hok, Bool.and_self, if_true]
      rw [ht] at hm
      rw [hr.fn, hr.nt, hm]
      simp only [hg]
      cases st <;> first | (cases hst; done) | (simp only [hro, if_true]; cases pd <;> rfl)
    cases pd with
    | none =>
      refine ⟨.normal, _, _, _, ?_, hr', h⟩
      exact hcall.two fun m j hm => by
        rw [evalCode_range, hstep m _ hm]
    | some c =>
      have h : Tree.eval (qJump kr kx c (r.push { target := .collected A.next, args := #[] } t) (A3.put (A.next + 1) (some (.loop fn t' nt ps a b .exhausted (some c) dl)))) = some R := h
      unfold qJump at h
      split at h
      · refine ⟨.exit _, _, _, _, ?_, hr', h⟩
        obtain ⟨m0, h0⟩ := hcall
        refine ⟨m0 + 2, fun m j hm hj => ?_⟩
        obtain ⟨j, rfl⟩ : ∃ i, j = i + 2 := ⟨j - 2, by omega⟩
        rw [evalCode_range, hstep m _ (h0 m (by omega))]
        rfl
      · refine ⟨.ret, _, _, _, ?_, hr', h⟩
        obtain ⟨m0, h0⟩ := hcall
        refine ⟨m0 + 2, fun m j hm hj => ?_⟩
        obtain ⟨j, rfl⟩ : ∃ i, j = i + 2 := ⟨j - 2, by omega⟩
        rw [evalCode_range, hstep m _ (h0 m (by omega))]
        rfl
      · exact (failAt_ne h).elim
  · exact (failAt_ne h).elim
theorem kcode'_ok (hF : Fit O N) : ∀ (c : Code), CodeOk P O N fid rd call c (kcode' P O N fid rd c).f
  | .skip => fun E hE kn kr kx t fr A R hr h => ⟨.normal, fr, A, t, .of fun _ _ => rfl, hr, h⟩
  | .region id ops dr => fun E hE kn kr kx t fr A R hr h => by
    cases dr with
    | false =>
      have e : (kcode' P O N fid rd (.region id ops false)).f E kn kr kx t A = (kchain P O N ops ops.toList).f E kn t A := by
        show (KO'.rec (motive := fun _ => KC F) (fun f => ⟨fun E kn _ _ t A => f E kn t A⟩) (kchain P O N ops ops.toList) : KC F).f E kn kr kx t A = _
        cases kchain P O N ops ops.toList; rfl
      rw [e] at h
      obtain ⟨fr', A', t', h1, h2, h3⟩ := kchain_ok hF _ E hE t fr A kn R hr h
      exact ⟨.normal, fr', A', t', h1.two fun m j a => by simp [evalCode, evalStep, a], h2, h3⟩
    | true =>
      have e : (kcode' P O N fid rd (.region id ops true)).f E kn kr kx t A = (kdraw P O N ops).f E kn t A := by
        show (KO'.rec (motive := fun _ => KC F) (fun f => ⟨fun E kn _ _ t A => f E kn t A⟩) (kdraw P O N ops) : KC F).f E kn kr kx t A = _
        cases kdraw P O N ops; rfl
      rw [e] at h
      obtain ⟨fr', A', t', h1, h2, h3⟩ := kdraw_ok hF E hE t fr A kn R hr h
      exact ⟨.normal, fr', A', t', h1.two fun m j a => by simp [evalCode, evalStep, a], h2, h3⟩
  | .seq a b => fun E hE kn kr kx t fr A R hr h => by
    have e : (kcode' P O N fid rd (.seq a b)).f E kn kr kx t A = (kcode' P O N fid rd a).f E ((kcode' P O N fid rd b).f E kn kr kx) kr kx t A := by
      show (KC.rec (motive := fun _ => KC F → KC F) (fun f b => KC.rec (motive := fun _ => KC F) (fun g => ⟨fun E kn kr kx t A => f E (g E kn kr kx) kr kx t A⟩) b) (kcode' P O N fid rd a) (kcode' P O N fid rd b) : KC F).f E kn kr kx t A = _
      cases kcode' P O N fid rd a; cases kcode' P O N fid rd b; rfl
    rw [e] at h
    obtain ⟨ex, fr1, A1, t1, h1, hr1, hg⟩ := kcode'_ok hF a E hE _ _ _ t fr A R hr h
    cases ex with
    | normal =>
      obtain ⟨ex2, fr2, A2, t2, h2, hr2, hg2⟩ := kcode'_ok hF b E hE _ _ _ t1 fr1 A1 R hr1 hg
      exact ⟨ex2, fr2, A2, t2, (h1.and h2).up fun m j ⟨a, c⟩ => by simp only [evalCode, evalStep, a, c], hr2, hg2⟩
    | exit i => exact ⟨.exit i, fr1, A1, t1, h1.up fun m j a => by simp only [evalCode, evalStep, a], hr1, hg⟩
    | ret => exact ⟨.ret, fr1, A1, t1, h1.up fun m j a => by simp only [evalCode, evalStep, a], hr1, hg⟩
    | goto l => exact hg.elim
  | .cond c a b => fun E hE kn kr kx t fr A R hr h => by
    have e : (kcode' P O N fid rd (.cond c a b)).f E kn kr kx t A = qBool ((ob O c).f t) (fun x => .node x ((kcode' P O N fid rd a).f E kn kr kx t A) ((kcode' P O N fid rd b).f E kn kr kx t A)) := by
      show (Gtt.rec (motive := fun _ => KC F → KC F → KC F) (fun v a b => KC.rec (motive := fun _ => KC F → KC F) (fun f b => KC.rec (motive := fun _ => KC F)
        (fun g => ⟨fun E kn kr kx t A => qBool (v t) (fun x => .node x (f E kn kr kx t A) (g E kn kr kx t A))⟩) b) a b) (ob O c) (kcode' P O N fid rd a) (kcode' P O N fid rd b) : KC F).f E kn kr kx t A = _
      cases ob O c; cases kcode' P O N fid rd a; cases kcode' P O N fid rd b; rfl
    rw [e] at h
    obtain ⟨x, hx, h⟩ := qBool_ok h
    rw [hr.ob hF.ok] at hx
    cases x with
    | true =>
      obtain ⟨ex, fr1, A1, t1, h1, hr1, hg⟩ := kcode'_ok hF a E hE _ _ _ t fr A R hr h
      exact ⟨ex, fr1, A1, t1, h1.up fun m j a => by simp [evalCode, evalStep, hx, a], hr1, hg⟩
    | false =>
      obtain ⟨ex, fr1, A1, t1, h1, hr1, hg⟩ := kcode'_ok hF b E hE _ _ _ t fr A R hr h
      exact ⟨ex, fr1, A1, t1, h1.up fun m j a => by simp [evalCode, evalStep, hx, a], hr1, hg⟩
  | .block id b => fun E hE kn kr kx t fr A R hr h => by
    have e : (kcode' P O N fid rd (.block id b)).f E kn kr kx t A = (kcode' P O N fid rd b).f E kn kr (fun i => Bool.rec (motive := fun _ => KK' F) (kx i) kn (Nat.beq i id)) t A := by
      show (KC.rec (motive := fun _ => KC F) (fun f => ⟨fun E kn kr kx t A => f E kn kr (fun i => Bool.rec (motive := fun _ => KK' F) (kx i) kn (Nat.beq i id)) t A⟩) (kcode' P O N fid rd b) : KC F).f E kn kr kx t A = _
      cases kcode' P O N fid rd b; rfl
    rw [e] at h
    obtain ⟨ex, fr1, A1, t1, h1, hr1, hg⟩ := kcode'_ok hF b E hE _ _ _ t fr A R hr h
    cases ex with
    | normal => exact ⟨.normal, fr1, A1, t1, h1.up fun m j a => by simp only [evalCode, evalStep, a], hr1, hg⟩
    | exit i =>
      have hg : Tree.eval (Bool.rec (motive := fun _ => KK' F) (kx i) kn (Nat.beq i id) t1 A1) = some R := hg
      cases hb : Nat.beq i id with
      | true =>
        rw [hb] at hg
        exact ⟨.normal, fr1, A1, t1, h1.up fun m j a => by simp only [evalCode, evalStep, a, hb, if_true], hr1, hg⟩
      | false =>
        rw [hb] at hg
        exact ⟨.exit i, fr1, A1, t1, h1.up fun m j a => by simp only [evalCode, evalStep, a, hb, Bool.false_eq_true, if_false], hr1, hg⟩
    | ret => exact ⟨.ret, fr1, A1, t1, h1.up fun m j a => by simp only [evalCode, evalStep, a], hr1, hg⟩
    | goto l => exact hg.elim
  | .loop b => fun E hE kn kr kx t fr A R hr h => by
    have e : (kcode' P O N fid rd (.loop b)).f E kn kr kx t A = kloopS (kcode' P O N fid rd b).f E kr kx t A := by
      show (KC.rec (motive := fun _ => KC F) (fun f => ⟨fun E _ kr kx t A => kloopS f E kr kx t A⟩) (kcode' P O N fid rd b) : KC F).f E kn kr kx t A = _
      cases kcode' P O N fid rd b; dsimp only
    rw [e, kloopS] at h
    exact kloop_ok (kcode'_ok hF b) hE _ t fr A hr h
  | .rangeFunc f params assign body => krange_ok hF f params assign body
  | .exit id => fun E hE kn kr kx t fr A R hr h => ⟨.exit id, fr, A, t, .of fun _ _ => rfl, hr, h⟩
  | .scope b => fun E hE kn kr kx t fr A R hr h => by
    obtain ⟨ex, fr1, A1, t1, h1, hr1, hg⟩ := kcode'_ok hF b E hE _ _ _ t fr A R hr h
    refine ⟨ex, fr1, A1, t1, ?_, hr1, hg⟩
    obtain ⟨m0, h0⟩ := h1
    refine ⟨m0 + 2, fun m j hm hj => ?_⟩
    obtain ⟨j, rfl⟩ : ∃ i, j = i + 2 := ⟨j - 2, by omega⟩
    have := h0 m (j + 1) (by omega) (by omega)
    show jumps _ b (j + 1) (evalCode P (call m) _ (j + 1) b fr A) = _
    rw [this]
    cases ex <;> first | rfl | exact hg.elim
  | .label l => fun E hE kn kr kx t fr A R hr h => ⟨.normal, fr, A, t, .of fun _ _ => rfl, hr, h⟩
  | .goto l => fun E hE kn kr kx t fr A R hr h => (failAt_ne h).elim
  | .ret => fun E hE kn kr kx t fr A R hr h => ⟨.ret, fr, A, t, .of fun _ _ => rfl, hr, h⟩
  | .refuse w => fun E hE kn kr kx t fr A R hr h => (failAt_ne h).elim
end Go.Dp.Tr
namespace Go.Dp.Tr
open Go Go.Dp
structure KFn where
  f : KE → List Value → AS → (Value → AS → Ans) → Ans
structure KR1 (F : Type) where
  f : F → AS → (Value → Ans) → Ans
structure KRs (F : Type) where
  f : F → AS → (List Value → Ans) → Ans
structure KRet (F : Type) where
  f : (Value → AS → Ans) → F → AS → Ans
noncomputable def qtold (vs : List Value) : Value := List.rec (motive := fun _ => Value) (.tuple ⟨[]⟩) (fun v vs _ => List.rec (motive := fun _ => Value) v (fun _ _ _ => .tuple ⟨v :: vs⟩) vs) vs
theorem qtold_eq : ∀ (vs : List Value), qtold vs = told vs
  | [] => rfl
  | [_] => rfl
  | _ :: _ :: _ => rfl
noncomputable def kfailF (n : Nat) : KFn := ⟨fun _ _ _ _ => failAt n⟩
section
variable {F : Type} (P : Program) (O : FO F) (N : Nat) (fid : FuncId)
noncomputable def kres1 (r : ResultVar) : KR1 F := match r with
  | .tmp k => Gtt.rec (motive := fun _ => KR1 F) (fun g => ⟨fun t _ c => qForce (g t) c⟩) (O.get k)
  | .cell a ty => match qkLoad P ty with
    | some n => Gtt.rec (motive := fun _ => KR1 F) (fun g => ⟨fun t A c => qLoad n A (g t) c⟩) (O.get a)
    | none => ⟨fun _ _ _ => failAt 100⟩
noncomputable def kress (rs : List ResultVar) : KRs F :=
  List.rec (motive := fun _ => KRs F) ⟨fun _ _ c => c []⟩ (fun r _ ih => KR1.rec (motive := fun _ => KRs F) (fun f => KRs.rec (motive := fun _ => KRs F) (fun g => ⟨fun t A c => f t A (fun v => g t A (fun vs => c (v :: vs)))⟩) ih) (kres1 P O r)) rs
noncomputable def kret (rs : List ResultVar) : KRet F := match rs with
  | [r] => KR1.rec (motive := fun _ => KRet F) (fun f => ⟨fun K t A => f t A (fun v => K v A)⟩) (kres1 P O r)
  | rs => KRs.rec (motive := fun _ => KRet F) (fun g => ⟨fun K t A => g t A (fun vs => K (qtold vs) A)⟩) (kress P O rs)
noncomputable def sfrom (n k : Nat) : List (Stt F) := Nat.rec (motive := fun _ => Nat → List (Stt F)) (fun _ => []) (fun _ ih k => O.set k :: ih (Nat.succ k)) n k
noncomputable def kenter (args : List Value) (ss : List (Stt F)) (t : F) (c : F → Ans) : Ans :=
  List.rec (motive := fun _ => List (Stt F) → F → (F → Ans) → Ans) (fun _ t c => c t)
    (fun v _ ih ss t c => List.rec (motive := fun _ => Value → (List (Stt F) → F → (F → Ans) → Ans) → F → (F → Ans) → Ans) (fun _ _ _ _ => failAt 101) (fun s ss _ v ih t c => qForce v (fun v => ih ss (s.f v t) c)) ss v ih t c) args ss t c
noncomputable def kbodyN (rs : List ResultVar) (c : Code) : KFn :=
  KC.rec (motive := fun _ => KFn) (fun b => KRet.rec (motive := fun _ => KFn) (fun r => ⟨fun E args A K => kenter args (sfrom O N 0) O.nil (fun t => b E (r K) (r K) (fun _ _ _ => failAt 102) t A)⟩) (kret P O rs)) (kcode' P O N fid false c)
end
noncomputable def isDefer (o : Oper) : Bool := match o.op with
  | .defer _ => true
  | _ => false
noncomputable def anyDefer (l : List Oper) : Bool := List.rec (motive := fun _ => Bool) false (fun o _ ih => Bool.rec (motive := fun _ => Bool) ih true (isDefer o)) l
noncomputable def hasRF (c : Code) : Bool :=
  Code.rec (motive := fun _ => Bool) false (fun _ ops _ => anyDefer ops.toList) (fun _ _ a b => Bool.rec (motive := fun _ => Bool) b true a) (fun _ _ _ a b => Bool.rec (motive := fun _ => Bool) b true a) (fun _ _ b => b) (fun _ b => b) (fun _ _ _ _ _ _ => true)
    (fun _ => false) (fun _ b => b) (fun _ => false) (fun _ => false) false (fun _ => false) c
noncomputable def kplain (P : Program) (f : FuncId) (fn : Func) (c : Code) : KFn := match Nat.ble fn.ntmps 8 with
  | true => kbodyN P (std O8) fn.ntmps f fn.results.toList c
  | false => match Nat.ble fn.ntmps 16 with
    | true => kbodyN P (std O16) fn.ntmps f fn.results.toList c
    | false => match Nat.ble fn.ntmps 64 with
      | true => kbodyN P (std O64) fn.ntmps f fn.results.toList c
      | false => match Nat.ble fn.ntmps 128 with
        | true => kbodyN P (std O128) fn.ntmps f fn.results.toList c
        | false => match Nat.ble fn.ntmps 256 with
          | true => kbodyN P (std O256) fn.ntmps f fn.results.toList c
          | false => match Nat.ble fn.ntmps 1024 with
            | true => kbodyN P (std O1024) fn.ntmps f fn.results.toList c
            | false => match Nat.ble fn.ntmps 4096 with
              | true => kbodyN P (std O4096) fn.ntmps f fn.results.toList c
              | false => kfailF 104
noncomputable def kplainF (P : Program) (f : FuncId) : KFn := match nthO P.funcs.toList f with
  | some fn => match fn.body with
    | some c => match kop1.qHasBody P f with
      | true => kplain P f fn c
      | false => kfailF 109
    | none => kfailF 123
  | none => kfailF 124
noncomputable def qleave (P : Program) (E : KE) : List Deferred → AS → (AS → Ans) → Ans
  | [], A, c => c A
  | d :: ds, A, c => match d.target with
    | .collected L => match hget A.heap L with
      | some .dlist => qIf (Nat.ble A.ro L) (qleave P E ds (qPut A L none) c) (failAt 120)
      | _ => failAt 121
    | .fn (.func g) cap => (kplainF P g).f E (d.args.toList ++ cap.toList) A (fun _ A => qleave P E ds A c)
    | _ => failAt 122
noncomputable def kbodyT (P : Program) (N : Nat) (fid : FuncId) (rs : List ResultVar) (c : Code) : KFn :=
  ⟨fun E args A K => kenter args (sfrom OT N 0) OT.nil (fun t => (kcode' P OT N fid false c).f E (fun t A => qleave P E t.ds A (fun A => (kret P OT rs).f K t A)) (fun t A => qleave P E t.ds A (fun A => (kret P OT rs).f K t A)) (fun _ _ _ => failAt 102) t A)⟩
noncomputable def kfun (P : Program) (f : FuncId) (fn : Func) : KFn := match fn.body with
  | none => kfailF 103
  | some c => match hasRF c with
    | true => match Nat.ble fn.ntmps 1000000 with
      | true => kbodyT P fn.ntmps f fn.results.toList c
      | false => kfailF 104
    | false => kplain P f fn c
noncomputable def qOpt (r : Option (Value × AS)) (K : Value → AS → Ans) : Ans :=
  Option.rec (motive := fun _ => (Value → AS → Ans) → Ans) (fun _ => failAt 105) (fun r K => Prod.rec (motive := fun _ => (Value → AS → Ans) → Ans) (fun v A K => K v A) r K) r K
structure TP where
  q : List Value → AS → (Value → AS → Tree) → Tree
  ok : ∀ args A K R, Tree.eval (q args A K) = some R → ∃ v A', Tree.eval (q args A .ret) = some (v, A') ∧ Tree.eval (K v A') = some R
def primOf (prim : FuncId → Option TP) : FuncId → Option (List Value → AS → Option (Value × AS)) := fun f => match prim f with
  | some p => some fun args A => Tree.eval (p.q args A .ret)
  | none => none
noncomputable def kfn (P : Program) (prim : FuncId → Option TP) (f : FuncId) : KFn := match prim f with
  | some p => ⟨fun _ args A K => p.q args A K⟩
  | none => match nthO P.funcs.toList f with
    | some fn => kfun P f fn
    | none => kfailF 106
noncomputable def setPs (nt : Nat) (t : Trie Value) (ps : List Tmp) (vs : List Value) : Trie Value := setParams nt t (ps.zip vs)
noncomputable def kround (P : Program) (E : KE) (L : Nat) (args : List Value) (A : AS) (K : Value → AS → Ans) : Ans :=
  qLoop A L (fun fn t nt ps a b _ _ _ => qIf (Nat.ble nt 1000000) ((kcode' P OT nt fn true a).f E
    (fun tf A1 => qLoop A1 L (fun fn1 t1 nt1 ps1 a1 b1 st1 pd1 dl1 => qIf (isReady st1 && Nat.ble A1.ro L)
      ((kcode' P OT nt fn true b).f E (fun _ A2 => kfinish L K none A2) (fun _ A2 => kfinish L K (some .ret) A2) (fun i _ A2 => kfinish L K (some (.exit i)) A2) tf (qPut A1 L (some (.loop fn1 t1 nt1 ps1 a1 b1 .busy pd1 dl1)))) (failAt 130)))
    (fun _ _ => failAt 131) (fun _ _ _ => failAt 132) ⟨setPs nt t ps.toList args, [], true⟩ A) (failAt 133))
 where
  isReady (st : LoopState) : Bool := match st with
    | .ready => true
    | _ => false
  kfinish (L : Nat) (K : Value → AS → Ans) (j : Option Code) (A2 : AS) : Ans :=
    qLoop A2 L (fun fn t nt ps a b _ _ dl => qIf (Nat.ble A2.ro L) (K (.bool j.isNone) (qPut A2 L (some (.loop fn t nt ps a b (if j.isNone then .ready else .done) j dl)))) (failAt 134))
noncomputable def kc (P : Program) (prim : FuncId → Option TP) (n : Nat) : KE :=
  Nat.rec (motive := fun _ => KE) ⟨fun _ _ _ _ => failAt 107, fun _ _ _ _ => failAt 108⟩ (fun _ ih => ⟨fun f args A K => (kfn P prim f).f ih args A K, fun l args A K => kround P ih l args A K⟩) n
variable {P : Program} {prim : FuncId → Option TP}
theorem fLoad_aLoad {t : TypeId} {x : Value} {A : AS} {n : Option Nat} {v : Value} (hk : kLoad P t = some n) (h : fLoad n A x = some v) : aLoad P A t x = some v := by
  unfold fLoad at h
  unfold kLoad at hk
  split at h
  · rename_i B o'
    split at h
    · rename_i cs z e hg
      simp only [aLoad, hg]
      split at hk
      · rename_i ha
        split at hk
        · rename_i m hs
          simp only [Option.some.injEq] at hk
          subst hk
          simpa [ha, hs] using h
        · cases hk
      · rename_i ha
        simp only [Option.some.injEq] at hk
        subst hk
        simpa [ha] using h
      · cases hk
    · cases h
  · cases h
section
variable {F : Type} {O : FO F} {N : Nat} {fid : FuncId} {rd : Bool}
theorem kres1_ok (hF : FOk O) {t : F} {fr : Fr} (hr : ∀ k, (O.get k).f t = ev fr (.tmp k)) {r : ResultVar} {A : AS} {c : Value → Ans} {R : Value × AS} (h : Tree.eval ((kres1 P O r).f t A c) = some R) : ∃ v, aResult P fr A r = some v ∧ Tree.eval (c v) = some R := by
  have hev := hr
  cases r with
  | tmp k =>
    have e : (kres1 P O (.tmp k)).f t A c = qForce ((O.get k).f t) c := by
      show (Gtt.rec (motive := fun _ => KR1 F) (fun g => ⟨fun t _ c => qForce (g t) c⟩) (O.get k) : KR1 F).f t A c = _
      cases O.get k; rfl
    rw [e, hev] at h
    exact ⟨_, rfl, qForce_ok h⟩
  | cell a ty =>
    unfold kres1 at h
    simp only at h
    cases hk : qkLoad P ty with
    | none => rw [hk] at h; exact (failAt_ne h).elim
    | some n =>
      rw [hk] at h
      have e : (Gtt.rec (motive := fun _ => KR1 F) (fun g => ⟨fun t A c => qLoad n A (g t) c⟩) (O.get a) : KR1 F).f t A c = qLoad n A ((O.get a).f t) c := by cases O.get a; rfl
      have h : Tree.eval ((Gtt.rec (motive := fun _ => KR1 F) (fun g => ⟨fun t A c => qLoad n A (g t) c⟩) (O.get a) : KR1 F).f t A c) = some R := h
      rw [e, hev] at h
      obtain ⟨v, h1, h2⟩ := qLoad_ok h
      exact ⟨v, fLoad_aLoad (qkLoad_ok hk) h1, h2⟩
theorem kress_ok (hF : FOk O) {t : F} {fr : Fr} (hr : ∀ k, (O.get k).f t = ev fr (.tmp k)) {A : AS} {R : Value × AS} : ∀ (rs : List ResultVar) (c : List Value → Ans), Tree.eval ((kress P O rs).f t A c) = some R → ∃ vs, aResults P fr A rs = some vs ∧ Tree.eval (c vs) = some R
  | [], c, h => ⟨[], rfl, h⟩
  | r :: rs, c, h => by
    have e : (kress P O (r :: rs)).f t A c = (kres1 P O r).f t A (fun v => (kress P O rs).f t A (fun vs => c (v :: vs))) := by
      show (KR1.rec (motive := fun _ => KRs F) (fun f => KRs.rec (motive := fun _ => KRs F) (fun g => ⟨fun t A c => f t A (fun v => g t A (fun vs => c (v :: vs)))⟩) (kress P O rs)) (kres1 P O r) : KRs F).f t A c = _
      cases kres1 P O r; cases kress P O rs; rfl
    rw [e] at h
    obtain ⟨v, h1, h⟩ := kres1_ok hF hr h
    obtain ⟨vs, h2, h⟩ := kress_ok hF hr rs _ h
    exact ⟨v :: vs, by simp only [aResults, h1, h2], h⟩
theorem kret_ok (hF : FOk O) {t : F} {fr : Fr} (hr : ∀ k, (O.get k).f t = ev fr (.tmp k)) {A : AS} {R : Value × AS} {rs : List ResultVar} {K : Value → AS → Ans} (h : Tree.eval ((kret P O rs).f K t A) = some R) :
    ∃ vs, aResults P fr A rs = some vs ∧ Tree.eval (K (told vs) A) = some R := by
  unfold kret at h
  split at h
  · rename_i r
    have e : (KR1.rec (motive := fun _ => KRet F) (fun f => ⟨fun K t A => f t A (fun v => K v A)⟩) (kres1 P O r) : KRet F).f K t A = (kres1 P O r).f t A (fun v => K v A) := by cases kres1 P O r; rfl
    rw [e] at h
    obtain ⟨v, h1, h⟩ := kres1_ok hF hr h
    exact ⟨[v], by simp only [aResults, h1], h⟩
  · have e : (KRs.rec (motive := fun _ => KRet F) (fun g => ⟨fun K t A => g t A (fun vs => K (qtold vs) A)⟩) (kress P O rs) : KRet F).f K t A = (kress P O rs).f t A (fun vs => K (qtold vs) A) := by cases kress P O rs; rfl
    rw [e] at h
    obtain ⟨vs, h1, h⟩ := kress_ok hF hr rs _ h
    rw [qtold_eq] at h
    exact ⟨vs, h1, h⟩
theorem kenter_ok (hF : FOk O) {c : F → Ans} {R : Value × AS} : ∀ (args : List Value) (n k : Nat) (t : F) (fr : Fr), k + n ≤ O.cap → O.rel t fr →
    Tree.eval (kenter args (sfrom O n k) t c) = some R → args.length ≤ n ∧ ∃ t', O.rel t' { fr with t := setAll fr.t k args } ∧ Tree.eval (c t') = some R
  | [], n, k, t, fr, _, hT, h => ⟨Nat.zero_le _, t, hT, h⟩
  | v :: args, 0, k, t, fr, _, hT, h => (failAt_ne h).elim
  | v :: args, n + 1, k, t, fr, hc, hT, h => by
    have h0 : Tree.eval (qForce v (fun v => kenter args (sfrom O n (k + 1)) ((O.set k).f v t) c)) = some R := h
    have h := qForce_ok h0
    obtain ⟨h1, h2⟩ := kenter_ok hF args n (k + 1) ((O.set k).f v t) { fr with t := fr.t.set k (some v) } (by omega) (hF.set _ _ hT _ (by omega) v) h
    exact ⟨by simp only [List.length_cons]; omega, h2⟩
theorem enter_ok (hF : Fit O N) {fn : Func} (hN : fn.ntmps = N) {f : FuncId} {args : List Value} {c' : F → Ans} {R : Value × AS} (h : Tree.eval (kenter args (sfrom O N 0) O.nil c') = some R) :
    ∃ t, FRel O N f false t (enterFr f fn args) ∧ Tree.eval (c' t) = some R := by
  subst hN
  obtain ⟨hl, t, hT, h⟩ := kenter_ok hF.ok args fn.ntmps 0 O.nil { t := .leaf, nt := fn.ntmps, defers := [], fn := f, inRound := false } (by have := hF.cap; omega) (hF.ok.nil _ rfl rfl rfl) h
  have hm : max args.length fn.ntmps = fn.ntmps := by omega
  have e : enterFr f fn args = { t := setAll .leaf 0 args, nt := fn.ntmps, defers := [], fn := f, inRound := false } := by
    unfold enterFr; rw [hm]
  exact ⟨t, ⟨by rw [e]; exact hT, by rw [e], by rw [e], by rw [e]⟩, h⟩
theorem body_ran {call : Nat → Calls2} {c : Code} {f : FuncId} {fn : Func} (hf : P.funcs[f]? = some fn) (hb : fn.body = some c) {args : List Value} {A A' : AS} {ex : AExit} {fr : Fr} (hex : ex = .normal ∨ ex = .ret)
    (h : Ev2 (fun m j => evalCode P (call m) (drawP P (qplan P) (call m)) j c (enterFr f fn args) A = some (ex, fr, A'))) : Ev (fun m => evalBody P (call m) (drawP P (qplan P) (call m)) m f args A = some (fn, fr, A')) := by
  obtain ⟨m0, h0⟩ := h
  refine ⟨m0, fun m hm => ?_⟩
  have hc := h0 m m hm hm
  show evalBody P (call m) (drawP P (qplan P) (call m)) m f args A = _
  unfold evalBody
  rcases hex with rfl | rfl <;> simp only [hf, hb, hc]
theorem kbodyN_ok (hF : Fit O N) (htr : O.tr = none) {call : Nat → Calls2} {rs : List ResultVar} {c : Code} {E : KE} (hE : EOk E call) {f : FuncId} {fn : Func} (hf : P.funcs[f]? = some fn) (hb : fn.body = some c) (hN : fn.ntmps = N)
    (hrs : fn.results.toList = rs) {args : List Value} {A : AS} {K : Value → AS → Ans} {R : Value × AS} (h : Tree.eval ((kbodyN P O N f rs c).f E args A K) = some R) :
    ∃ vs fr A', Ev (fun m => evalBody P (call m) (drawP P (qplan P) (call m)) m f args A = some (fn, fr, A')) ∧ fr.defers = [] ∧ aResults P fr A' fn.results.toList = some vs ∧ Tree.eval (K (told vs) A') = some R := by
  subst hrs
  have e : (kbodyN P O N f fn.results.toList c).f E args A K =
      kenter args (sfrom O N 0) O.nil (fun t => (kcode' P O N f false c).f E ((kret P O fn.results.toList).f K) ((kret P O fn.results.toList).f K) (fun _ _ _ => failAt 102) t A) := by
    unfold kbodyN
    cases kcode' P O N f false c
    cases kret P O fn.results.toList
    rfl
  rw [e] at h
  obtain ⟨t, hr, h⟩ := enter_ok (f := f) hF hN h
  obtain ⟨ex, fr', A', t', h1, hr', hg⟩ := kcode'_ok hF c E hE _ _ _ t _ A R hr h
  have hd := hF.ok.nod htr _ _ hr'.rel
  have fin : ∀ {ex : AExit}, (ex = .normal ∨ ex = .ret) → Ev2 (fun m j => evalCode P (call m) (drawP P (qplan P) (call m)) j c (enterFr f fn args) A = some (ex, fr', A')) → Tree.eval ((kret P O fn.results.toList).f K t' A') = some R →
      ∃ vs fr A', Ev (fun m => evalBody P (call m) (drawP P (qplan P) (call m)) m f args A = some (fn, fr, A')) ∧ fr.defers = [] ∧ aResults P fr A' fn.results.toList = some vs ∧ Tree.eval (K (told vs) A') = some R := by
    intro ex hex h1 hk
    obtain ⟨vs, h2, h3⟩ := kret_ok hF.ok (fun k => hr'.ob hF.ok (.tmp k)) hk
    exact ⟨vs, fr', A', body_ran hf hb hex h1, hd, h2, h3⟩
  cases ex with
  | normal => exact fin (.inl rfl) h1 hg
  | ret => exact fin (.inr rfl) h1 hg
  | exit i => exact (failAt_ne hg).elim
  | goto l => exact hg.elim
end
theorem kplain_ok {call : Nat → Calls2} {E : KE} (hE : EOk E call) {f : FuncId} {fn : Func} {c : Code} (hf : P.funcs[f]? = some fn) (hb : fn.body = some c) {args : List Value} {A : AS} {K : Value → AS → Ans} {R : Value × AS} (h : Tree.eval ((kplain P f fn c).f E args A K) = some R) :
    ∃ vs fr A', Ev (fun m => evalBody P (call m) (drawP P (qplan P) (call m)) m f args A = some (fn, fr, A')) ∧ fr.defers = [] ∧ aResults P fr A' fn.results.toList = some vs ∧ Tree.eval (K (told vs) A') = some R := by
  have k8 : FBk O8 := base8_ok
  have k16 : FBk O16 := base16_ok
  have k64 : FBk O64 := lift8_ok k8
  have k128 : FBk O128 := lift16_ok k8
  have k256 : FBk O256 := lift16_ok k16
  have k1024 : FBk O1024 := lift8_ok k128
  have k4096 : FBk O4096 := lift16_ok k256
  unfold kplain at h
  split at h
  · rename_i hn; exact kbodyN_ok (O := std O8) ⟨std_ok k8, Nat.le_of_ble_eq_true hn⟩ rfl hE hf hb rfl rfl h
  · split at h
    · rename_i hn; exact kbodyN_ok (O := std O16) ⟨std_ok k16, Nat.le_of_ble_eq_true hn⟩ rfl hE hf hb rfl rfl h
    · split at h
      · rename_i hn; exact kbodyN_ok (O := std O64) ⟨std_ok k64, Nat.le_of_ble_eq_true hn⟩ rfl hE hf hb rfl rfl h
      · split at h
        · rename_i hn; exact kbodyN_ok (O := std O128) ⟨std_ok k128, Nat.le_of_ble_eq_true hn⟩ rfl hE hf hb rfl rfl h
        · split at h
          · rename_i hn; exact kbodyN_ok (O := std O256) ⟨std_ok k256, Nat.le_of_ble_eq_true hn⟩ rfl hE hf hb rfl rfl h
          · split at h
            · rename_i hn; exact kbodyN_ok (O := std O1024) ⟨std_ok k1024, Nat.le_of_ble_eq_true hn⟩ rfl hE hf hb rfl rfl h
            · split at h
              · rename_i hn; exact kbodyN_ok (O := std O4096) ⟨std_ok k4096, Nat.le_of_ble_eq_true hn⟩ rfl hE hf hb rfl rfl h
              · exact (failAt_ne h).elim
theorem kplainF_ok {call : Nat → Calls2} {E : KE} (hE : EOk E call) {f : FuncId} {args : List Value} {A : AS} {K : Value → AS → Ans} {R : Value × AS} (h : Tree.eval ((kplainF P f).f E args A K) = some R) :
    ∃ fn vs fr A', hasBody P f = true ∧ Ev (fun m => evalBody P (call m) (drawP P (qplan P) (call m)) m f args A = some (fn, fr, A')) ∧ fr.defers = [] ∧ aResults P fr A' fn.results.toList = some vs ∧ Tree.eval (K (told vs) A') = some R := by
  unfold kplainF at h
  split at h
  · rename_i fn hfn
    rw [nthO_eq] at hfn
    have hfn : P.funcs[f]? = some fn := by rw [← hfn]; simp
    split at h
    · rename_i c hb
      split at h
      · rename_i hh
        obtain ⟨vs, fr, A', h1, h2, h3, h4⟩ := kplain_ok hE hfn hb h
        exact ⟨fn, vs, fr, A', qHasBody_ok P hh, h1, h2, h3, h4⟩
      · exact (failAt_ne h).elim
    · exact (failAt_ne h).elim
  · exact (failAt_ne h).elim
theorem qleave_ok {call : Nat → Calls2} {E : KE} (hE : EOk E call) {c : AS → Ans} {R : Value × AS} : ∀ (ds : List Deferred) (A : AS), Tree.eval (qleave P E ds A c) = some R →
    ∃ A', Ev (fun m => leave (evalBody P (call m) (drawP P (qplan P) (call m)) m) P ds A = some A') ∧ Tree.eval (c A') = some R
  | [], A, h => ⟨A, .of fun _ => rfl, h⟩
  | d :: ds, A, h => by
    unfold qleave at h
    split at h
    · rename_i L ht
      split at h
      · rename_i hg
        obtain ⟨hro, h⟩ := qIf_ok h
        rw [hget_eq] at hg
        have hg : A.get L = some .dlist := hg
        rw [qPut_eq] at h
        obtain ⟨A', h1, h2⟩ := qleave_ok hE ds _ h
        exact ⟨A', h1.imp fun m hm => by unfold leave; simp only [ht, hg, hro, if_true]; exact hm, h2⟩
      · exact (failAt_ne h).elim
    · rename_i g cap ht
      obtain ⟨fn, vs, fr, A1, hb, h1, h2, h3, h⟩ := kplainF_ok hE h
      obtain ⟨A', h4, h5⟩ := qleave_ok hE ds _ h
      refine ⟨A', (h1.and h4).imp fun m ⟨a, b⟩ => ?_, h5⟩
      unfold leave
      simp only [ht, hb, if_true, a, h2, h3, List.isEmpty_nil, Option.isSome_some, Bool.and_self]
      exact b
    · exact (failAt_ne h).elim
theorem kbodyT_ok {N : Nat} (hF : Fit OT N) {call : Nat → Calls2} {rs : List ResultVar} {c : Code} {E : KE} (hE : EOk E call) {f : FuncId} {fn : Func} (hf : P.funcs[f]? = some fn) (hb : fn.body = some c) (hN : fn.ntmps = N)
    (hrs : fn.results.toList = rs) {args : List Value} {A : AS} {K : Value → AS → Ans} {R : Value × AS} (h : Tree.eval ((kbodyT P N f rs c).f E args A K) = some R) :
    ∃ v A', Ev (fun m => finish P (evalBody P (call m) (drawP P (qplan P) (call m)) m) (evalBody P (call m) (drawP P (qplan P) (call m)) m f args A) = some (v, A')) ∧ Tree.eval (K v A') = some R := by
  subst hrs
  unfold kbodyT at h
  dsimp only at h
  obtain ⟨t, hr, h⟩ := enter_ok (f := f) hF hN h
  obtain ⟨ex, fr', A', t', h1, hr', hg⟩ := kcode'_ok hF c E hE _ _ _ t _ A R hr h
  have hd : t'.ds = fr'.defers := hr'.rel.2.1
  have key : ∀ (ex : AExit), (ex = .normal ∨ ex = .ret) → Ev2 (fun m j => evalCode P (call m) (drawP P (qplan P) (call m)) j c (enterFr f fn args) A = some (ex, fr', A')) →
      Tree.eval (qleave P E t'.ds A' (fun A => (kret P OT fn.results.toList).f K t' A)) = some R →
      ∃ v A', Ev (fun m => finish P (evalBody P (call m) (drawP P (qplan P) (call m)) m) (evalBody P (call m) (drawP P (qplan P) (call m)) m f args A) = some (v, A')) ∧ Tree.eval (K v A') = some R := by
    intro ex hex h1 hg
    rw [hd] at hg
    obtain ⟨A2, h2, h3⟩ := qleave_ok hE _ _ hg
    obtain ⟨vs, h4, h5⟩ := kret_ok hF.ok (fun k => hr'.ob hF.ok (.tmp k)) h3
    refine ⟨told vs, A2, ((body_ran hf hb hex h1).and h2).imp fun m ⟨a, b⟩ => ?_, h5⟩
    rw [a]
    simp only [finish, b, h4]
  cases ex with
  | normal => exact key _ (.inl rfl) h1 hg
  | ret => exact key _ (.inr rfl) h1 hg
  | exit i => exact (failAt_ne hg).elim
  | goto l => exact hg.elim
theorem kfun_ok {call : Nat → Calls2} {E : KE} (hE : EOk E call) {f : FuncId} {fn : Func} (hf : P.funcs[f]? = some fn) {args : List Value} {A : AS} {K : Value → AS → Ans} {R : Value × AS} (h : Tree.eval ((kfun P f fn).f E args A K) = some R) :
    ∃ v A', Ev (fun m => finish P (evalBody P (call m) (drawP P (qplan P) (call m)) m) (evalBody P (call m) (drawP P (qplan P) (call m)) m f args A) = some (v, A')) ∧ Tree.eval (K v A') = some R := by
  unfold kfun at h
  split at h
  · exact (failAt_ne h).elim
  · rename_i c hb
    split at h
    · split at h
      · rename_i hn
        exact kbodyT_ok ⟨OT_ok, Nat.le_trans (Nat.le_of_ble_eq_true hn) (by decide)⟩ hE hf hb rfl rfl h
      · exact (failAt_ne h).elim
    · obtain ⟨vs, fr, A', h1, h2, h3, h4⟩ := kplain_ok hE hf hb h
      refine ⟨told vs, A', h1.imp fun m hm => ?_, h4⟩
      rw [hm]
      simp only [finish, h2, leave, h3]
theorem kfinish_ok {L : Nat} {K : Value → AS → Ans} {ex : AExit} {A2 : AS} {R : Value × AS} (h : Tree.eval (kround.kfinish L K (jumpOf ex) A2) = some R) :
    ∃ A', (match A2.get L with
      | some (.loop fn2 t2 nt2 params2 assign2 body2 _ _ dl2) =>
        if Nat.ble A2.ro L then
          some (.bool (jumpOf ex).isNone, A2.put L (some (.loop fn2 t2 nt2 params2 assign2 body2 (if (jumpOf ex).isNone then .ready else .done) (jumpOf ex) dl2)))
        else none
      | _ => none : Option (Value × AS)) = some (.bool (jumpOf ex).isNone, A') ∧ Tree.eval (K (.bool (jumpOf ex).isNone) A') = some R := by
  unfold kround.kfinish at h
  obtain ⟨fn, t, nt, ps, a, b, st, pd, dl, hg, h⟩ := qLoop_ok h
  obtain ⟨hro, h⟩ := qIf_ok h
  rw [qPut_eq] at h
  exact ⟨_, by simp only [hg, hro, if_true], h⟩
theorem kround_ok {call : Nat → Calls2} {E : KE} (hE : EOk E call) {L : Nat} {args : List Value} {A : AS} {K : Value → AS → Ans} {R : Value × AS} (h : Tree.eval (kround P E L args A K) = some R) :
    ∃ v A', Ev (fun m => evalRound (evalCode P (call m) (drawP P (qplan P) (call m)) m) L args A = some (v, A')) ∧ Tree.eval (K v A') = some R := by
  unfold kround at h
  obtain ⟨fn, t, nt, ps, a, b, st, pd, dl, hg, h⟩ := qLoop_ok h
  obtain ⟨hn, h⟩ := qIf_ok h
  have hF : Fit OT nt := ⟨OT_ok, Nat.le_trans (Nat.le_of_ble_eq_true hn) (by decide)⟩
  have hr : FRel OT nt fn true ⟨setPs nt t ps.toList args, [], true⟩ { t := setParams nt t (ps.toList.zip args), nt := nt, defers := [], fn := fn, inRound := true } := ⟨⟨rfl, rfl, rfl⟩, rfl, rfl, rfl⟩
  obtain ⟨ex, fr1, A1, tf, h1, hr1, hg1⟩ := kcode'_ok hF a E hE _ _ _ _ _ A R hr h
  cases ex with
  | ret => exact (failAt_ne hg1).elim
  | exit i => exact (failAt_ne hg1).elim
  | goto l => exact hg1.elim
  | normal =>
    obtain ⟨fn1, t1, nt1, ps1, a1, b1, st1, pd1, dl1, hgA1, hh⟩ := qLoop_ok hg1
    obtain ⟨hst, hbody⟩ := qIf_ok hh
    simp only [Bool.and_eq_true] at hst
    obtain ⟨hst, hro⟩ := hst
    rw [qPut_eq] at hbody
    have hst : st1 = .ready := by
      unfold kround.isReady at hst
      split at hst
      · rfl
      · cases hst
    subst hst
    obtain ⟨ex, fr2, A2, t2, h2, hr2, hg2⟩ := kcode'_ok hF b E hE _ _ _ _ _ _ R hr1 hbody
    have key : Tree.eval (kround.kfinish L K (jumpOf ex) A2) = some R := by
      cases ex with
      | normal => exact hg2
      | ret => exact hg2
      | exit i => exact hg2
      | goto l => exact hg2.elim
    obtain ⟨A', h3, h4⟩ := kfinish_ok key
    refine ⟨_, A', ?_, h4⟩
    obtain ⟨m1, e1⟩ := h1
    obtain ⟨m2, e2⟩ := h2
    refine ⟨max m1 m2, fun m hm => ?_⟩
    have c1 := e1 m m (by omega) (by omega)
    have c2 := e2 m m (by omega) (by omega)
    show evalRound _ L args A = _
    unfold evalRound
    simp only [hg, c1, hgA1, hro, if_true, c2]
    exact h3
theorem kc_ok : ∀ n, EOk (kc P prim n) (fun m => calls P (primOf prim) (drawP P (qplan P)) m n)
  | 0 => ⟨fun f args A K R h => (failAt_ne h).elim, fun f args A K R h => (failAt_ne h).elim⟩
  | n + 1 => by
    refine ⟨fun f args A K R h => ?_, fun l args A K R h => ?_⟩
    · have h : Tree.eval ((kfn P prim f).f (kc P prim n) args A K) = some R := h
      unfold kfn at h
      split at h
      · rename_i p hp
        have h : Tree.eval (p.q args A K) = some R := h
        obtain ⟨v, A', h1, h2⟩ := p.ok _ _ _ _ h
        exact ⟨v, A', .of fun m => by simp only [calls, primOf, hp, h1], h2⟩
      · rename_i hp
        split at h
        · rename_i fn hfn
          rw [nthO_eq] at hfn
          have hfn : P.funcs[f]? = some fn := by rw [← hfn]; simp
          obtain ⟨v, A', h1, h2⟩ := kfun_ok (kc_ok n) hfn h
          exact ⟨v, A', h1.imp fun m hm => by simp only [calls, primOf, hp]; exact hm, h2⟩
        · exact (failAt_ne h).elim
    · have h : Tree.eval (kround P (kc P prim n) l args A K) = some R := h
      exact kround_ok (kc_ok n) h
end Go.Dp.Tr
namespace Go.Dp.Tr
open Go Go.Dp
inductive Out where
  | bad
  | ret (v : Value)
  | ite (b : Bool) (y n : Out)
  | given (cs : List Value) (o n : Nat) (l : List Value) (k : Out)
  | opt (r : Option (ANext × AS)) (x : ANext × AS) (k : Out)
  | obj (r : Option AObj) (x : AObj) (k : Out)
  | tree (t : Tree)
inductive Scr where
  | done
  | stop
  | lit (k : Nat) (s : Scr)
  | split (y n : Scr)
  | must (s : Scr)
  | mustn (s : Scr)
  | given (l : List Value) (s : Scr)
  | opt (x : ANext × AS) (s : Scr)
  | obj (x : AObj) (s : Scr)
noncomputable def lits (k : Nat) : Tree → Tree :=
  Nat.rec (motive := fun _ => Tree → Tree) (fun t => t) (fun _ ih t => match t with
    | .node b y n => ih (Bool.rec (motive := fun _ => Tree) n y b)
    | .ask cs o n c => match piece cs o n with
      | some l => ih (c l)
      | none => .fail 200
    | .opt r c => match r with
      | some x => ih (c x)
      | none => .fail 202
    | .obj r c => match r with
      | some x => ih (c x)
      | none => .fail 203
    | _ => .fail 201) k
theorem lits_ok {R : Value × AS} : ∀ (k : Nat) (t : Tree), Tree.eval (lits k t) = some R → Tree.eval t = some R
  | 0, t, h => h
  | k + 1, t, h => by
    cases t with
    | fail n => cases h
    | ret v A => cases h
    | node b y n =>
      have h : Tree.eval (lits k (Bool.rec (motive := fun _ => Tree) n y b)) = some R := h
      cases b with
      | true => exact lits_ok k y h
      | false => exact lits_ok k n h
    | ask cs o n c =>
      have h : Tree.eval (match piece cs o n with
        | some l => lits k (c l)
        | none => .fail 200) = some R := h
      split at h
      · rename_i l hl
        simp only [Tree.eval, hl]
        exact lits_ok k (c l) h
      · cases h
    | opt r c =>
      cases r with
      | some x => exact lits_ok k (c x) h
      | none => cases h
    | obj r c =>
      cases r with
      | some x => exact lits_ok k (c x) h
      | none => cases h
noncomputable def run (s : Scr) : Tree → Out :=
  Scr.rec (motive := fun _ => Tree → Out)
    (fun t => match t with
      | .ret v _ => .ret v
      | _ => .bad)
    (fun t => .tree t)
    (fun k _ ih t => ih (lits k t))
    (fun _ _ iy inn t => match t with
      | .node b y n => .ite b (iy y) (inn n)
      | _ => .bad)
    (fun _ ih t => match t with
      | .node b y _ => .ite b (ih y) .bad
      | _ => .bad)
    (fun _ ih t => match t with
      | .node b _ n => .ite b .bad (ih n)
      | _ => .bad)
    (fun l _ ih t => match t with
      | .ask cs o n c => .given cs o n l (ih (c l))
      | _ => .bad)
    (fun x _ ih t => match t with
      | .opt r c => .opt r x (ih (c x))
      | _ => .bad)
    (fun x _ ih t => match t with
      | .obj r c => .obj r x (ih (c x))
      | _ => .bad) s
def Out.says (r : Option (Value × AS)) : Out → Prop
  | .bad => True
  | .ret v => ∃ A, r = some (v, A)
  | .ite b y n => (b = true → y.says r) ∧ (b = false → n.says r)
  | .given cs o n l k => piece cs o n = some l → k.says r
  | .opt o x k => o = some x → k.says r
  | .obj o x k => o = some x → k.says r
  | .tree t => ∀ R, Tree.eval t = some R → r = some R
theorem run_ok : ∀ (s : Scr) (t : Tree) (r : Option (Value × AS)), (∀ R, Tree.eval t = some R → r = some R) → (run s t).says r
  | .done, t, r, h => by
    cases t with
    | ret v A => exact ⟨A, h _ rfl⟩
    | _ => trivial
  | .stop, t, r, h => h
  | .lit k s, t, r, h => run_ok s (lits k t) r fun R hR => h R (lits_ok k t hR)
  | .split y n, t, r, h => by
    cases t with
    | node b y' n' =>
      refine ⟨fun hb => run_ok y y' r fun R hR => h R ?_, fun hb => run_ok n n' r fun R hR => h R ?_⟩
      · subst hb; exact hR
      · subst hb; exact hR
    | _ => trivial
  | .must s, t, r, h => by
    cases t with
    | node b y' n' =>
      refine ⟨fun hb => run_ok s y' r fun R hR => h R ?_, fun _ => trivial⟩
      subst hb; exact hR
    | _ => trivial
  | .mustn s, t, r, h => by
    cases t with
    | node b y' n' =>
      refine ⟨fun _ => trivial, fun hb => run_ok s n' r fun R hR => h R ?_⟩
      subst hb; exact hR
    | _ => trivial
  | .given l s, t, r, h => by
    cases t with
    | ask cs o n c =>
      intro hp
      refine run_ok s (c l) r fun R hR => h R ?_
      simp only [Tree.eval, hp]
      exact hR
    | _ => trivial
  | .opt x s, t, r, h => by
    cases t with
    | opt o c =>
      intro hp
      refine run_ok s (c x) r fun R hR => h R ?_
      subst hp
      exact hR
    | _ => trivial
  | .obj x s, t, r, h => by
    cases t with
    | obj o c =>
      intro hp
      refine run_ok s (c x) r fun R hR => h R ?_
      subst hp
      exact hR
    | _ => trivial
def Tells (v : Value) (r : Option (Value × AS)) : Prop := ∃ A, r = some (v, A)
theorem run_says (s : Scr) (t : Tree) : (run s t).says t.eval := run_ok s t _ fun _ h => h
theorem says_of {s : Scr} {t : Tree} {o : Out} (h : run s t = o) : o.says t.eval := h ▸ run_says s t
theorem tells_tree {t : Tree} {r : Option (Value × AS)} {v : Value} (h : Out.says r (.tree t)) (ht : Tells v t.eval) : Tells v r := by
  obtain ⟨A, hA⟩ := ht
  exact ⟨A, h _ hA⟩
def Out.tells (v : Value) : Out → Prop
  | .bad => False
  | .ret w => w = v
  | .ite b y n => (b = true → y.tells v) ∧ (b = false → n.tells v)
  | .given cs o n l k => piece cs o n = some l ∧ k.tells v
  | .opt r x k => r = some x ∧ k.tells v
  | .obj r x k => r = some x ∧ k.tells v
  | .tree t => Tells v t.eval
theorem Out.tells_ok {r : Option (Value × AS)} {v : Value} : ∀ (o : Out), o.says r → o.tells v → Tells v r
  | .bad, _, h => h.elim
  | .ret w, h, e => by
    have e : w = v := e
    subst e; exact h
  | .ite b y n, h, t => by
    cases b with
    | true => exact Out.tells_ok y (h.1 rfl) (t.1 rfl)
    | false => exact Out.tells_ok n (h.2 rfl) (t.2 rfl)
  | .given cs o n l k, h, t => Out.tells_ok k (h t.1) t.2
  | .opt r x k, h, t => Out.tells_ok k (h t.1) t.2
  | .obj r x k, h, t => Out.tells_ok k (h t.1) t.2
  | .tree t, h, ht => tells_tree h ht
theorem tells_of {s : Scr} {t : Tree} {o : Out} {v : Value} (h : run s t = o) (ht : o.tells v) : Tells v t.eval := Out.tells_ok o (says_of h) ht
def Out.val : Out → Option Bool
  | .ret (.bool b) => some b
  | .ite b y n => if b then y.val else n.val
  | _ => none
theorem Out.val_says {r : Option (Value × AS)} : ∀ (o : Out) {b : Bool}, o.says r → o.val = some b → Tells (.bool b) r
  | .bad, _, _, h => by cases h
  | .ret v, b, hs, h => by
    obtain ⟨A, hA⟩ := hs
    cases v <;> first | (simp [Out.val] at h; subst h; exact ⟨A, hA⟩) | (simp [Out.val] at h)
  | .ite c y n, b, hs, h => by
    unfold Out.val at h
    cases c with
    | true => exact Out.val_says y (hs.1 rfl) h
    | false => exact Out.val_says n (hs.2 rfl) h
  | .given .., _, _, h => by cases h
  | .opt .., _, _, h => by cases h
  | .obj .., _, _, h => by cases h
  | .tree _, _, _, h => by cases h
end Go.Dp.Tr
namespace Go.Dp.Tr
open Go Go.Dp
variable {F : Type} {P : Program} {O : FO F} {N : Nat} {fid : FuncId} {rd : Bool}
variable {E : KE} {kn kr : KK' F} {kx : Nat → KK' F} {t : F} {A : AS}
theorem seq_eq {a b : Code} : (kcode' P O N fid rd (.seq a b)).f E kn kr kx t A = (kcode' P O N fid rd a).f E ((kcode' P O N fid rd b).f E kn kr kx) kr kx t A := by
  show (KC.rec (motive := fun _ => KC F → KC F) (fun f b => KC.rec (motive := fun _ => KC F) (fun g => ⟨fun E kn kr kx t A => f E (g E kn kr kx) kr kx t A⟩) b) (kcode' P O N fid rd a) (kcode' P O N fid rd b) : KC F).f E kn kr kx t A = _
  cases kcode' P O N fid rd a; cases kcode' P O N fid rd b; rfl
theorem seq_fun {a b : Code} : (kcode' P O N fid rd (.seq a b)).f E kn kr kx = (kcode' P O N fid rd a).f E ((kcode' P O N fid rd b).f E kn kr kx) kr kx :=
  funext fun _ => funext fun _ => seq_eq
theorem block_eq {id : Nat} {b : Code} : (kcode' P O N fid rd (.block id b)).f E kn kr kx t A = (kcode' P O N fid rd b).f E kn kr (fun i => Bool.rec (motive := fun _ => KK' F) (kx i) kn (Nat.beq i id)) t A := by
  show (KC.rec (motive := fun _ => KC F) (fun f => ⟨fun E kn kr kx t A => f E kn kr (fun i => Bool.rec (motive := fun _ => KK' F) (kx i) kn (Nat.beq i id)) t A⟩) (kcode' P O N fid rd b) : KC F).f E kn kr kx t A = _
  cases kcode' P O N fid rd b; rfl
theorem loop_eq {b : Code} : (kcode' P O N fid rd (.loop b)).f E kn kr kx t A = kloop (kcode' P O N fid rd b).f E kr kx loopMost t A := by
  have e : (kcode' P O N fid rd (.loop b)).f E kn kr kx t A = kloopS (kcode' P O N fid rd b).f E kr kx t A := by
    show (KC.rec (motive := fun _ => KC F) (fun f => ⟨fun E kn kr kx t A => kloopS f E kr kx t A⟩) (kcode' P O N fid rd b) : KC F).f E kn kr kx t A = _
    cases kcode' P O N fid rd b; dsimp only
  rw [e, kloopS]
theorem bodyN_eq {rs : List ResultVar} {c : Code} {args : List Value} {K : Value → AS → Ans} : (kbodyN P O N fid rs c).f E args A K =
    kenter args (sfrom O N 0) O.nil (fun t => (kcode' P O N fid false c).f E ((kret P O rs).f K) ((kret P O rs).f K) (fun _ _ _ => failAt 102) t A) := by
  unfold kbodyN
  cases kcode' P O N fid false c
  cases kret P O rs
  rfl
theorem loop_tells {f : KE → KK' F → KK' F → (Nat → KK' F) → F → AS → Ans} {v : Value} (I : Nat → F → AS → Prop)
    (step : ∀ k t A (K : KK' F), I k t A → (∀ j t' A', j < k → I j t' A' → Tells v (K t' A').eval) → Tells v (f E K kr kx t A).eval) :
    ∀ n k t A, k < n → I k t A → Tells v (kloop f E kr kx n t A).eval
  | 0, k, t, A, hk, _ => absurd hk (Nat.not_lt_zero _)
  | n + 1, k, t, A, hk, hI => by
    show Tells v (f E (kloop f E kr kx n) kr kx t A).eval
    exact step k t A _ hI fun j t' A' hj hI' => loop_tells I step n j t' A' (by omega) hI'
theorem mid_eq {a b c l e : Code} : (kcode' P O N fid rd (.seq a (.seq b (.seq (.seq c l) e)))).f E kn kr kx t A =
    (kcode' P O N fid rd (.seq a (.seq b c))).f E (fun t A => (kcode' P O N fid rd l).f E ((kcode' P O N fid rd e).f E kn kr kx) kr kx t A) kr kx t A := by
  simp only [seq_fun]
theorem mid_loop {id : Nat} {b : Code} : (kcode' P O N fid rd (.block id (.loop b))).f E kn kr kx t A =
    kloop (kcode' P O N fid rd b).f E kr (fun i => Bool.rec (motive := fun _ => KK' F) (kx i) kn (Nat.beq i id)) loopMost t A := by
  rw [block_eq, loop_eq]
theorem force_eq {x : Value} {c : Value → Ans} : Tree.eval (qForce x c) = Tree.eval (c x) := by cases x <;> rfl
theorem ret_tells {k : Nat} {v : Value} (h : (O.get k).f t = v) : Tells v ((kret P O [.tmp k]).f .ret t A).eval := by
  have e : (kret P O [.tmp k]).f .ret t A = qForce ((O.get k).f t) (fun v => .ret v A) := by
    show (KR1.rec (motive := fun _ => KRet F) (fun f => ⟨fun K t A => f t A (fun v => K v A)⟩) (kres1 P O (.tmp k)) : KRet F).f .ret t A = _
    show (KR1.rec (motive := fun _ => KRet F) (fun f => ⟨fun K t A => f t A (fun v => K v A)⟩) (Gtt.rec (motive := fun _ => KR1 F) (fun g => ⟨fun t _ c => qForce (g t) c⟩) (O.get k) : KR1 F) : KRet F).f .ret t A = _
    cases O.get k; rfl
  rw [e, force_eq, h]
  exact ⟨A, rfl⟩
noncomputable def st (O : FO F) (l : List (Nat × Value)) (t : F) : F := l.foldr (fun p t => (O.set p.1).f p.2 t) t
def bd (f : Func) : Code := f.body.getD .skip
theorem kc_call {prim : FuncId → Option TP} {n : Nat} {f : FuncId} {args : List Value} {K : Value → AS → Ans} : (kc P prim (n + 1)).call f args A K = (kfn P prim f).f (kc P prim n) args A K := rfl
def _root_.Go.Code.at : List Nat → Code → Code
  | [], c => c
  | 0 :: p, .seq a _ => a.at p
  | _ :: p, .seq _ b => b.at p
  | _ :: p, .block _ b => b.at p
  | _ :: p, .loop b => b.at p
  | _ :: p, .scope b => b.at p
  | 0 :: p, .cond _ a _ => a.at p
  | _ :: p, .cond _ _ b => b.at p
  | _ :: _, c => c
end Go.Dp.Tr
namespace Go.Dp.Tr
open Go Go.Dp
variable {P : Program} {prim : FuncId → Option TP}
def noTP : FuncId → Option TP := fun _ => none
theorem noTP_ok : PrimOk P (primOf noTP) := by
  intro f p hp
  cases hp
noncomputable def TP.plain (p : List Value → AS → Option (Value × AS)) : TP where
  q := fun args A K => qOpt (p args A) K
  ok := fun args A K R h => by
    cases hp : p args A with
    | none => rw [hp] at h; exact (failAt_ne h).elim
    | some r =>
      obtain ⟨v, A'⟩ := r
      rw [hp] at h
      exact ⟨v, A', rfl, h⟩
theorem calls_of (hp : PrimOk P (primOf prim)) (hmix : P.follows .mixedOrders = true) {f : FuncId} (hb : hasBody P f = true) {args : List Value} {args' : Array Value} {A A' : AS} {v : Value} {e : Env} {w : World} (hi : Inv e A w) (hg : Glob e A)
    (ha : VRs e A.next args args'.toList) {n : Nat} (h : Tree.eval ((kc P prim n).call f args A .ret) = some (v, A')) :
    CallsTo P f args' w fun v' w' => ∃ e', Inv e' A' w' ∧ Step e A w e' A' w' ∧ VR e' A'.next v v' := by
  obtain ⟨v1, A1, hev, h1⟩ := (kc_ok (P := P) (prim := prim) n).call _ _ _ _ _ h
  have h1 : some (v1, A1) = some (v, A') := h1
  simp only [Option.some.injEq, Prod.mk.injEq] at h1
  obtain ⟨rfl, rfl⟩ := h1
  obtain ⟨m, hm⟩ := hev.get
  have hok : CallsOk P (calls P (primOf prim) (drawP P (qplan P)) m n) := calls_ok hp (fun cc hcc => drawP_ok (fun _ _ h => qplan_ok h) hmix hcc) m n
  exact hok.call hm hb hi hg ha
def AllRo (A : AS) : Prop := ∀ B o, A.get B = some o → B < A.ro
def _root_.Go.Dp.AS.fix (A : AS) : AS := { A with ro := A.next }
theorem fix_inv {e : Env} {A : AS} {w : World} (h : Inv e A w) : Inv e A.fix w where
  obj := fun B o hB => by
    have hB : A.get B = some o := hB
    have ho := h.obj B o hB
    cases o with
    | cells cs z x =>
      obtain ⟨ccs, T, fr, h1, h2, h3, h4, h5⟩ := ho
      refine ⟨ccs, T, fr, h1, h2, h3, h4, fun hr => ?_⟩
      have := h.dom B _ hB
      have hr : A.next ≤ B := hr
      omega
    | map es clock => exact ho
    | siter s pos => exact ho
    | miter m a b c => exact ho
    | loop fn t nt ps a b st pd dl => exact ho
    | dlist => exact ho
  dom := h.dom
  inj := fun B B' o o' hB _ _ hr => by
    have := h.dom B _ hB
    have hr : A.next ≤ B := hr
    omega
  le := Nat.le_refl _
theorem fix_ro {e : Env} {A : AS} {w : World} (h : Inv e A w) : AllRo A.fix := fun B o hB => h.dom B o hB
theorem fix_glob {e : Env} {A : AS} (h : Glob e A) : Glob e A.fix := h
theorem calls_kept (hp : PrimOk P (primOf prim)) (hmix : P.follows .mixedOrders = true) {f : FuncId} (hb : hasBody P f = true) {args : List Value} {args' : Array Value} {A : AS} {v : Value} {e : Env} {w : World} (hi : Inv e A w) (hg : Glob e A)
    (ha : VRs e A.next args args'.toList) (hro : AllRo A) (hv : flat v = true) {n : Nat} (h : Tells v (Tree.eval ((kc P prim n).call f args A .ret))) :
    CallsTo P f args' w fun v' w' => v' = v ∧ Kept w w' := by
  obtain ⟨A', h⟩ := h
  intro cs
  obtain ⟨fr, w', v', s1, s2, s3, e', i1, i2, i3⟩ := calls_of hp hmix hb hi hg ha h cs
  refine ⟨fr, w', v', s1, s2, s3, VR.of_flat hv i3, i2.size, ?_, i2.tape, i2.os, i2.output⟩
  intro b hb
  refine i2.keep b hb fun C o hC hr => ?_
  have := hro C o hC
  omega
theorem kept_inv {e : Env} {A : AS} {w w' : World} (hi : Inv e A w) (hk : Kept w w') : Inv e A w' where
  obj := fun B o hB => by
    have ho := hi.obj B o hB
    exact ho.mono (hi.dom B o hB) (fun _ _ => ⟨rfl, rfl, rfl⟩) (Nat.le_refl _) (hk.heap _ ho.lt)
  dom := hi.dom
  inj := hi.inj
  le := hi.le
theorem kept_step {e : Env} {A : AS} {w w' : World} (hk : Kept w w') (hi : Inv e A w) : Step e A w e A w' where
  env := fun _ _ => ⟨rfl, rfl, rfl⟩
  next := Nat.le_refl _
  ro := rfl
  fixed := fun _ _ => rfl
  locs := fun B o h hr => .inr ⟨B, o, h, hr, rfl⟩
  size := hk.size
  keep := fun b hb _ => hk.heap b hb
  tape := hk.tape
  os := hk.os
  output := hk.output
theorem prim_kept {f : FuncId} {p : List Value → AS → Option (Value × AS)}
    (h : ∀ args A A' v, p args A = some (v, A') → A' = A ∧ flat v = true ∧ ∀ e w (args' : Array Value), Inv e A w → Glob e A → VRs e A.next args args'.toList → CallsTo P f args' w fun v' w' => v' = v ∧ Kept w w') :
    PrimAt P f p := by
  intro args A A' v hp e w args' hi hg ha
  obtain ⟨rfl, hv, hc⟩ := h args A A' v hp
  intro cs
  obtain ⟨fr, w', v', s1, s2, s3, rfl, hk⟩ := hc e w args' hi hg ha cs
  exact ⟨fr, w', v', s1, s2, s3, e, kept_inv hi hk, kept_step hk hi, .flat hv⟩
theorem prim_run (hp : PrimOk P (primOf prim)) (hmix : P.follows .mixedOrders = true) {f : FuncId} (hb : hasBody P f = true) {n : Nat} {p : List Value → AS → Option (Value × AS)}
    (h : ∀ args A A' v, p args A = some (v, A') → A' = A ∧ flat v = true ∧ ((∀ B o, A.get B = some o → B < A.next) → Tells v (Tree.eval ((kc P prim n).call f args A.fix .ret)))) : PrimAt P f p :=
  prim_kept fun args A A' v hpp => by
    obtain ⟨h1, h2, h3⟩ := h args A A' v hpp
    exact ⟨h1, h2, fun e w args' hi hg ha => calls_kept hp hmix hb (fix_inv hi) (fix_glob hg) ha (fix_ro hi) h2 (h3 hi.dom)⟩
end Go.Dp.Tr
