/- Proved here: what single operations of the program do to clean memory, in whatever world it lies. No condition. -/
import Derived.Calls
import Derived.Laws.IdiomCopy
import Derived.Laws.Append
import GoSem.Dispatch
import Derived.Control
set_option linter.unusedVariables false
set_option linter.unusedSimpArgs false
namespace Go.Dp
inductive Trie (α : Type) where
  | leaf
  | node (l : Trie α) (v : Option α) (r : Trie α)
def digits : Nat → Nat → List Bool
  | 0, _ => []
  | n + 1, k => if k = 0 then [] else (k % 2 == 1) :: digits n ((k - 1) / 2)
def path (k : Nat) : List Bool := digits k k
theorem digits_inj : ∀ (n m k j : Nat), k ≤ n → j ≤ m → digits n k = digits m j → k = j
  | 0, 0, k, j, hk, hj, _ => by omega
  | 0, m + 1, k, j, hk, hj, h => by
    by_cases hj0 : j = 0
    · omega
    · simp [digits, hj0] at h
  | n + 1, 0, k, j, hk, hj, h => by
    by_cases hk0 : k = 0
    · omega
    · simp [digits, hk0] at h
  | n + 1, m + 1, k, j, hk, hj, h => by
    by_cases hk0 : k = 0
    · by_cases hj0 : j = 0
      · omega
      · simp [digits, hk0, hj0] at h
    · by_cases hj0 : j = 0
      · simp [digits, hk0, hj0] at h
      · simp only [digits, hk0, hj0, if_false, List.cons.injEq] at h
        have := digits_inj n m _ _ (by omega) (by omega) h.2
        have h1 : (k % 2 == 1) = (j % 2 == 1) := h.1
        have h2 : k % 2 = j % 2 := by
          rcases Nat.mod_two_eq_zero_or_one k with a | a <;> rcases Nat.mod_two_eq_zero_or_one j with b | b <;> simp_all
        omega
theorem path_inj {k j : Nat} (h : path k = path j) : k = j := digits_inj k j k j (Nat.le_refl _) (Nat.le_refl _) h
namespace Trie
variable {α : Type}
def kid (b : Bool) : Trie α → Trie α
  | leaf => leaf
  | node l _ r => match b with
    | true => l
    | false => r
def val : Trie α → Option α
  | leaf => none
  | node _ v _ => v
def getAt (t : Trie α) : List Bool → Option α
  | [] => t.val
  | b :: p => (t.kid b).getAt p
def setAt (t : Trie α) (x : Option α) : List Bool → Trie α
  | [] => match t with
    | leaf => node leaf x leaf
    | node l _ r => node l x r
  | b :: p => match t with
    | leaf => match b with
      | true => node (setAt leaf x p) none leaf
      | false => node leaf none (setAt leaf x p)
    | node l v r => match b with
      | true => node (l.setAt x p) v r
      | false => node l v (r.setAt x p)
def get (t : Trie α) (k : Nat) : Option α := t.getAt (path k)
def set (t : Trie α) (k : Nat) (x : Option α) : Trie α := t.setAt x (path k)
theorem getAt_setAt_same (x : Option α) : ∀ (p : List Bool) (t : Trie α), (t.setAt x p).getAt p = x
  | [], t => by cases t <;> rfl
  | b :: p, t => by cases t <;> cases b <;> simp [setAt, getAt, kid, getAt_setAt_same x p]
theorem getAt_leaf : ∀ (p : List Bool), (leaf : Trie α).getAt p = none
  | [] => rfl
  | b :: p => by simp [getAt, kid, getAt_leaf p]
theorem getAt_setAt_other (x : Option α) : ∀ (p q : List Bool) (t : Trie α), p ≠ q → (t.setAt x p).getAt q = t.getAt q
  | [], [], t, h => absurd rfl h
  | [], c :: q, t, _ => by cases t <;> cases c <;> simp [setAt, getAt, kid]
  | b :: p, [], t, _ => by cases t <;> cases b <;> simp [setAt, getAt, val]
  | b :: p, c :: q, t, h => by
    by_cases hbc : b = c
    · subst hbc
      have hpq : p ≠ q := fun e => h (by rw [e])
      cases t <;> cases b <;> simp [setAt, getAt, kid, getAt_setAt_other x p q _ hpq]
    · cases t <;> cases b <;> cases c <;> first | exact absurd rfl hbc | simp [setAt, getAt, kid]
theorem get_set_same (t : Trie α) (k : Nat) (x : Option α) : (t.set k x).get k = x := getAt_setAt_same x _ t
theorem get_set_other (t : Trie α) {k j : Nat} (x : Option α) (h : k ≠ j) : (t.set k x).get j = t.get j :=
  getAt_setAt_other x _ _ t (fun e => h (path_inj e))
theorem get_set (t : Trie α) (k j : Nat) (x : Option α) : (t.set k x).get j = if k = j then x else t.get j := by
  by_cases h : k = j
  · subst h; simp [get_set_same]
  · simp [get_set_other t x h, h]
theorem get_leaf (k : Nat) : (leaf : Trie α).get k = none := getAt_leaf _
end Trie
end Go.Dp
namespace Go.Dp
def scalar : Value → Bool
  | .bool _ | .int _ _ | .float _ _ | .complex _ _ _ | .string _ | .nilFunc | .nilIface => true
  | .pointer none => true
  | .slice none 0 0 => true
  | .map none => true
  | .func (.func _) f c => f.size == 0 && c.size == 0
  | _ => false
def flat : Value → Bool
  | .agg cs => cs.toList.all scalar
  | .tuple vs => vs.toList.all fun
    | .agg cs => cs.toList.all scalar
    | v => scalar v
  | v => scalar v
structure Env where
  loc : Nat → Nat
  off : Nat → Nat
  ext : Nat → Nat
mutual
inductive VR (e : Env) (n : Nat) : Value → Value → Prop where
  | flat {v : Value} (h : flat v = true) : VR e n v v
  | ptr {B o : Nat} (h : B < n) : VR e n (.pointer (some ⟨B, o, none⟩)) (.pointer (some ⟨e.loc B, e.off B + o, none⟩))
  | slice {B o len c : Nat} (h : B < n) : VR e n (.slice (some ⟨B, o, none⟩) len c) (.slice (some ⟨e.loc B, e.off B + o, none⟩) len (c + e.ext B))
  | void {B o : Nat} (h : B < n) : VR e n (.slice (some ⟨B, o, some 0⟩) 0 0) (.slice (some ⟨e.loc B, e.off B + o, none⟩) 0 0)
  | pend {B o k : Nat} (h : B < n) (he : e.ext B = 0) : VR e n (.slice (some ⟨B, o, some (k + 1)⟩) 0 0) (.slice (some ⟨e.loc B, e.off B + o, none⟩) 0 0)
  | pended {B o k : Nat} (h : B < n) (he : e.ext B ≠ 0) : VR e n (.slice (some ⟨B, o, some (k + 1)⟩) 0 0) (.slice (some ⟨e.loc B, e.off B + o + (k + 1), none⟩) 0 (e.ext B))
  | map {B : Nat} (h : B < n) : VR e n (.map (some B)) (.map (some (e.loc B)))
  | agg {xs ys : List Value} (h : VRs e n xs ys) : VR e n (.agg ⟨xs⟩) (.agg ⟨ys⟩)
  | tuple {xs ys : List Value} (h : VRs e n xs ys) : VR e n (.tuple ⟨xs⟩) (.tuple ⟨ys⟩)
  | func {f : FuncId} {xs ys us vs : List Value} (h : VRs e n xs ys) (h' : VRs e n us vs) :
      VR e n (.func (.func f) ⟨xs⟩ ⟨us⟩) (.func (.func f) ⟨ys⟩ ⟨vs⟩)
  | yield {B : Nat} (h : B < n) : VR e n (.func (.yield B) #[] #[]) (.func (.yield (e.loc B)) #[] #[])
inductive VRs (e : Env) (n : Nat) : List Value → List Value → Prop where
  | nil : VRs e n [] []
  | cons {x y : Value} {xs ys : List Value} (h : VR e n x y) (t : VRs e n xs ys) : VRs e n (x :: xs) (y :: ys)
end
def Env.agrees (e e' : Env) (n : Nat) : Prop := ∀ B, B < n → e'.loc B = e.loc B ∧ e'.off B = e.off B ∧ e'.ext B = e.ext B
mutual
theorem VR.mono {e e' : Env} {n n' : Nat} (ha : e.agrees e' n) (hn : n ≤ n') : ∀ {v w : Value}, VR e n v w → VR e' n' v w
  | _, _, .flat h => .flat h
  | _, _, .ptr (B := B) h => by
    obtain ⟨h1, h2, h3⟩ := ha B h
    have := VR.ptr (e := e') (n := n') (B := B) (o := by assumption) (Nat.lt_of_lt_of_le h hn)
    rw [h1, h2] at this; exact this
  | _, _, .slice (B := B) (o := o) (len := len) (c := c) h => by
    obtain ⟨h1, h2, h3⟩ := ha B h
    have := VR.slice (e := e') (n := n') (B := B) (o := o) (len := len) (c := c) (Nat.lt_of_lt_of_le h hn)
    rw [h1, h2, h3] at this; exact this
  | _, _, .void (B := B) (o := o) h => by
    obtain ⟨h1, h2, h3⟩ := ha B h
    have := VR.void (e := e') (n := n') (B := B) (o := o) (Nat.lt_of_lt_of_le h hn)
    rw [h1, h2] at this; exact this
  | _, _, .pend (B := B) (o := o) (k := k) h he => by
    obtain ⟨h1, h2, h3⟩ := ha B h
    have := VR.pend (e := e') (n := n') (B := B) (o := o) (k := k) (Nat.lt_of_lt_of_le h hn) (by rw [h3]; exact he)
    rw [h1, h2] at this; exact this
  | _, _, .pended (B := B) (o := o) (k := k) h he => by
    obtain ⟨h1, h2, h3⟩ := ha B h
    have := VR.pended (e := e') (n := n') (B := B) (o := o) (k := k) (Nat.lt_of_lt_of_le h hn) (by rw [h3]; exact he)
    rw [h1, h2, h3] at this; exact this
  | _, _, .map (B := B) h => by
    obtain ⟨h1, h2, h3⟩ := ha B h
    have := VR.map (e := e') (n := n') (B := B) (Nat.lt_of_lt_of_le h hn)
    rw [h1] at this; exact this
  | _, _, .agg h => .agg (VRs.mono ha hn h)
  | _, _, .tuple h => .tuple (VRs.mono ha hn h)
  | _, _, .func h h' => .func (VRs.mono ha hn h) (VRs.mono ha hn h')
  | _, _, .yield (B := B) h => by
    obtain ⟨h1, h2, h3⟩ := ha B h
    have := VR.yield (e := e') (n := n') (B := B) (Nat.lt_of_lt_of_le h hn)
    rw [h1] at this; exact this
theorem VRs.mono {e e' : Env} {n n' : Nat} (ha : e.agrees e' n) (hn : n ≤ n') : ∀ {v w : List Value}, VRs e n v w → VRs e' n' v w
  | _, _, .nil => .nil
  | _, _, .cons h t => .cons (VR.mono ha hn h) (VRs.mono ha hn t)
end
theorem VRs.length {e : Env} {n : Nat} : ∀ {xs ys : List Value}, VRs e n xs ys → ys.length = xs.length
  | _, _, .nil => rfl
  | _, _, .cons _ t => by simp [t.length]
theorem VRs.get {e : Env} {n : Nat} : ∀ {xs ys : List Value}, VRs e n xs ys → ∀ {i : Nat} {x : Value}, xs[i]? = some x → ∃ y, ys[i]? = some y ∧ VR e n x y
  | _, _, .nil, i, x, h => by simp at h
  | _, _, .cons h t, 0, x, hx => by simp at hx; subst hx; exact ⟨_, rfl, h⟩
  | _, _, .cons h t, i + 1, x, hx => by
    simp at hx
    obtain ⟨y, hy, r⟩ := t.get hx
    exact ⟨y, by simpa using hy, r⟩
theorem VRs.of_get {e : Env} {n : Nat} : ∀ {xs ys : List Value}, ys.length = xs.length → (∀ (i : Nat) (x : Value), xs[i]? = some x → ∃ y, ys[i]? = some y ∧ VR e n x y) → VRs e n xs ys
  | [], [], _, _ => .nil
  | [], _ :: _, h, _ => by simp at h
  | _ :: _, [], h, _ => by simp at h
  | x :: xs, y :: ys, h, hg => by
    refine .cons ?_ (VRs.of_get (by simpa using h) fun i z hz => ?_)
    · obtain ⟨y', hy, r⟩ := hg 0 x rfl
      simp at hy; subst hy; exact r
    · obtain ⟨y', hy, r⟩ := hg (i + 1) z (by simpa using hz)
      exact ⟨y', by simpa using hy, r⟩
theorem VRs.append {e : Env} {n : Nat} : ∀ {xs ys us vs : List Value}, VRs e n xs ys → VRs e n us vs → VRs e n (xs ++ us) (ys ++ vs)
  | _, _, _, _, .nil, h => h
  | _, _, _, _, .cons a t, h => .cons a (t.append h)
theorem VRs.take {e : Env} {n : Nat} : ∀ {xs ys : List Value} (k : Nat), VRs e n xs ys → VRs e n (xs.take k) (ys.take k)
  | _, _, 0, _ => by simp; exact .nil
  | _, _, _ + 1, .nil => .nil
  | _, _, k + 1, .cons a t => by simp; exact .cons a (t.take k)
theorem VRs.drop {e : Env} {n : Nat} : ∀ {xs ys : List Value} (k : Nat), VRs e n xs ys → VRs e n (xs.drop k) (ys.drop k)
  | _, _, 0, h => by simpa using h
  | _, _, _ + 1, .nil => .nil
  | _, _, k + 1, .cons _ t => by simpa using t.drop k
theorem scalar_flat {v : Value} (h : scalar v = true) : flat v = true := by
  unfold scalar at h
  unfold flat
  split <;> first | exact h | (simp at h)
theorem VRs.all_flat {e : Env} {n : Nat} : ∀ {xs : List Value}, xs.all flat = true → VRs e n xs xs
  | [], _ => .nil
  | x :: xs, h => by
    simp only [List.all_cons, Bool.and_eq_true] at h
    exact .cons (.flat h.1) (VRs.all_flat h.2)
theorem VRs.all_scalar {e : Env} {n : Nat} {xs : List Value} (h : xs.all scalar = true) : VRs e n xs xs :=
  VRs.all_flat (by simp only [List.all_eq_true] at *; exact fun x hx => scalar_flat (h x hx))
theorem VR.cells {e : Env} {n : Nat} {v w : Value} (h : VR e n v w) : VRs e n v.cells.toList w.cells.toList := by
  cases h with
  | flat h =>
    cases v with
    | agg cs => simp only [Dp.flat] at h; exact VRs.all_scalar h
    | _ => exact .cons (.flat h) .nil
  | agg h => exact h
  | ptr h => exact .cons (.ptr h) .nil
  | slice h => exact .cons (.slice h) .nil
  | void h => exact .cons (.void h) .nil
  | pend h he => exact .cons (.pend h he) .nil
  | pended h he => exact .cons (.pended h he) .nil
  | map h => exact .cons (.map h) .nil
  | tuple h => exact .cons (.tuple h) .nil
  | func h h' => exact .cons (.func h h') .nil
  | yield h => exact .cons (.yield h) .nil
theorem VR.of_flat_agg {e : Env} {n : Nat} : ∀ {xs ys : List Value}, xs.all scalar = true → VRs e n xs ys → ys = xs
  | _, _, _, .nil => rfl
  | x :: xs, y :: ys, h, .cons a t => by
    simp only [List.all_cons, Bool.and_eq_true] at h
    have h1 : y = x := by
      have hx := h.1
      cases a with
      | flat _ => rfl
      | ptr _ => simp [scalar] at hx
      | slice _ => simp [scalar] at hx
      | void _ => simp [scalar] at hx
      | pend _ _ => simp [scalar] at hx
      | pended _ _ => simp [scalar] at hx
      | map _ => simp [scalar] at hx
      | agg _ => simp [scalar] at hx
      | tuple _ => simp [scalar] at hx
      | func p q =>
        simp [scalar] at hx
        obtain ⟨h1, h2⟩ := hx
        subst h1 h2
        cases p; cases q; rfl
      | yield _ => simp [scalar] at hx
    rw [h1, VR.of_flat_agg h.2 t]
theorem VR.of_flat {e : Env} {n : Nat} {v w : Value} (hv : Dp.flat v = true) (h : VR e n v w) : w = v := by
  cases h with
  | flat _ => rfl
  | ptr _ => simp [Dp.flat, scalar] at hv
  | slice _ => simp [Dp.flat, scalar] at hv
  | void _ => simp [Dp.flat, scalar] at hv
  | pend _ _ => simp [Dp.flat, scalar] at hv
  | pended _ _ => simp [Dp.flat, scalar] at hv
  | map _ => simp [Dp.flat, scalar] at hv
  | agg h => simp only [Dp.flat] at hv; rw [VR.of_flat_agg hv h]
  | tuple h =>
    rename_i xs ys
    simp only [Dp.flat] at hv
    have key : ∀ {xs ys : List Value}, (xs.all fun | .agg cs => cs.toList.all scalar | v => scalar v) = true → VRs e n xs ys → ys = xs := by
      intro xs
      induction xs with
      | nil => intro ys _ t; cases t; rfl
      | cons x xs ih =>
        intro ys hx t
        cases t with
        | cons a t =>
          simp only [List.all_cons, Bool.and_eq_true] at hx
          rw [ih hx.2 t]
          congr 1
          cases x with
          | agg cs =>
            have hx1 := hx.1
            cases a with
            | flat _ => rfl
            | agg h => rw [VR.of_flat_agg hx1 h]
          | _ =>
            have := VR.of_flat_agg (xs := [_]) (ys := [_]) (by simpa using hx.1) (.cons a .nil)
            simpa using this
    rw [key hv h]
  | func p q =>
    simp [Dp.flat, scalar] at hv
    obtain ⟨h1, h2⟩ := hv
    subst h1 h2
    cases p; cases q; rfl
  | yield _ => simp [Dp.flat, scalar] at hv
end Go.Dp
namespace Go.Dp
inductive AObj where
  | cells (cs : List Value) (esz : Nat) (ext : Bool)
  | map (es : List MapEntry) (clock : Nat)
  | siter (s : ByteArray) (pos : Nat)
  | miter (m : Option Nat) (since : Nat) (seen : Array Nat) (stepped : Nat)
  | loop (fn : FuncId) (t : Trie Value) (nt : Nat) (params : Array Tmp) (assign body : Code) (st : LoopState) (pending : Option Code) (dl : Nat)
  | dlist
structure AS where
  heap : Trie AObj
  next : Nat
  ro : Nat
def AS.get (A : AS) (B : Nat) : Option AObj := A.heap.get B
def AS.put (A : AS) (B : Nat) (o : Option AObj) : AS := { A with heap := A.heap.set B o }
def AS.new (A : AS) (o : AObj) : AS := { A with heap := A.heap.set A.next (some o), next := A.next + 1 }
theorem AS.get_put (A : AS) (B C : Nat) (o : Option AObj) : (A.put B o).get C = if B = C then o else A.get C := Trie.get_set _ _ _ _
theorem AS.get_new (A : AS) (C : Nat) (o : AObj) : (A.new o).get C = if A.next = C then some o else A.get C := Trie.get_set _ _ _ _
def TmpsRel (e : Env) (n : Nat) (t : Trie Value) (nt : Nat) (tmps : Array Value) : Prop :=
  tmps.size = nt ∧ (∀ k, VR e n ((t.get k).getD undef) (tmps.getD k undef)) ∧ ∀ k, nt ≤ k → t.get k = none
theorem TmpsRel.mono {e e' : Env} {n n' nt : Nat} {t : Trie Value} {tmps : Array Value} (h : TmpsRel e n t nt tmps) (ha : e.agrees e' n) (hn : n ≤ n') : TmpsRel e' n' t nt tmps :=
  ⟨h.1, fun k => (h.2.1 k).mono ha hn, h.2.2⟩
def ObjAt (e : Env) (n ro : Nat) (w : World) (B : Nat) : AObj → Prop
  | .cells cs esz ext => ∃ ccs T fr, w.heap[e.loc B]? = some (.cells ccs T fr) ∧ (ext = false → e.ext B = 0) ∧
      e.off B + cs.length + e.ext B * esz ≤ ccs.size ∧
      (∀ (i : Nat) (v : Value), cs[i]? = some v → ∃ v', ccs[e.off B + i]? = some v' ∧ VR e n v v') ∧
      (ro ≤ B → ∀ j, e.off B ≤ j → j < e.off B + cs.length + e.ext B * esz → ¬ (fr.1 ≤ j ∧ j < fr.2))
  | .map es clock => ∃ ces, w.heap[e.loc B]? = some (.map ces clock) ∧ ces.size = es.length ∧
      ∀ (i : Nat) (en : MapEntry), es[i]? = some en → ∃ cen : MapEntry, ces[i]? = some cen ∧ flat en.key = true ∧ cen.key = en.key ∧ cen.born = en.born ∧ VR e n en.val cen.val
  | .siter s pos => e.off B = 0 ∧ w.heap[e.loc B]? = some (.stringIter s pos)
  | .miter m since seen stepped => e.off B = 0 ∧ (∀ b, m = some b → b < n) ∧ w.heap[e.loc B]? = some (.mapIter (m.map e.loc) since seen stepped)
  | .loop fn t nt params assign body st pending dl => dl < n ∧ ∃ tmps, TmpsRel e n t nt tmps ∧
      w.heap[e.loc B]? = some (.loop { state := st, pending := pending, fn := fn, tmps := tmps, params := params, assign := assign, body := body, defers := e.loc dl })
  | .dlist => w.heap[e.loc B]? = some (.deferred (some []))
structure Inv (e : Env) (A : AS) (w : World) : Prop where
  obj : ∀ B o, A.get B = some o → ObjAt e A.next A.ro w B o
  dom : ∀ B o, A.get B = some o → B < A.next
  inj : ∀ B B' o o', A.get B = some o → A.get B' = some o' → B ≠ B' → A.ro ≤ B → e.loc B ≠ e.loc B'
  le : A.ro ≤ A.next
structure Step (e : Env) (A : AS) (w : World) (e' : Env) (A' : AS) (w' : World) : Prop where
  env : ∀ B, B < A.next ∨ A'.next ≤ B → e'.loc B = e.loc B ∧ e'.off B = e.off B ∧ e'.ext B = e.ext B
  next : A.next ≤ A'.next
  ro : A'.ro = A.ro
  fixed : ∀ B, B < A.ro → A'.get B = A.get B
  locs : ∀ B o, A'.get B = some o → A.ro ≤ B → w.heap.size ≤ e'.loc B ∨ ∃ C o', A.get C = some o' ∧ A.ro ≤ C ∧ e.loc C = e'.loc B
  size : w.heap.size ≤ w'.heap.size
  keep : ∀ b, b < w.heap.size → (∀ C o, A.get C = some o → A.ro ≤ C → e.loc C ≠ b) → w'.heap[b]? = w.heap[b]?
  tape : w'.tape = w.tape
  os : w'.os = w.os
  output : w'.output = w.output
theorem ObjAt.lt {e : Env} {n ro : Nat} {w : World} {B : Nat} {o : AObj} (h : ObjAt e n ro w B o) : e.loc B < w.heap.size := by
  have key : ∀ {x : Obj}, w.heap[e.loc B]? = some x → e.loc B < w.heap.size := fun {x} hx => by
    rcases Nat.lt_or_ge (e.loc B) w.heap.size with h | h
    · exact h
    · simp [Array.getElem?_eq_none h] at hx
  cases o with
  | cells cs esz ext => obtain ⟨ccs, T, fr, hb, _⟩ := h; exact key hb
  | map es clock => obtain ⟨ces, hb, _⟩ := h; exact key hb
  | siter s pos => exact key h.2
  | miter m a b c => exact key h.2.2
  | loop fn t nt params assign body st pending dl => obtain ⟨_, tmps, _, hb⟩ := h; exact key hb
  | dlist => exact key h
theorem Step.refl (e : Env) (A : AS) (w : World) : Step e A w e A w where
  env := fun _ _ => ⟨rfl, rfl, rfl⟩
  next := Nat.le_refl _
  ro := rfl
  fixed := fun _ _ => rfl
  locs := fun B o h hr => .inr ⟨B, o, h, hr, rfl⟩
  size := Nat.le_refl _
  keep := fun _ _ _ => rfl
  tape := rfl
  os := rfl
  output := rfl
theorem Step.trans {e e' e'' : Env} {A A' A'' : AS} {w w' w'' : World} (h : Step e A w e' A' w') (k : Step e' A' w' e'' A'' w'') :
    Step e A w e'' A'' w'' where
  env := fun B hB => by
    have h1 : B < A.next ∨ A'.next ≤ B := by have := h.next; have := k.next; omega
    have h2 : B < A'.next ∨ A''.next ≤ B := by have := h.next; have := k.next; omega
    obtain ⟨a, b, c⟩ := h.env B h1
    obtain ⟨a', b', c'⟩ := k.env B h2
    exact ⟨a'.trans a, b'.trans b, c'.trans c⟩
  next := Nat.le_trans h.next k.next
  ro := k.ro.trans h.ro
  fixed := fun B hB => (k.fixed B (by rw [h.ro]; exact hB)).trans (h.fixed B hB)
  locs := fun B o hB hr => by
    rcases k.locs B o hB (by rw [h.ro]; exact hr) with hl | ⟨C, o', hC, hrC, hl⟩
    · exact .inl (Nat.le_trans h.size hl)
    · rw [h.ro] at hrC
      rcases h.locs C o' hC hrC with hl' | ⟨D, o'', hD, hrD, hl'⟩
      · exact .inl (hl ▸ hl')
      · exact .inr ⟨D, o'', hD, hrD, hl'.trans hl⟩
  size := Nat.le_trans h.size k.size
  keep := fun b hb hn => by
    rw [k.keep b (Nat.lt_of_lt_of_le hb h.size) ?_, h.keep b hb hn]
    intro C o hC hr he
    rw [h.ro] at hr
    rcases h.locs C o hC hr with hl | ⟨D, o', hD, hrD, hl⟩
    · omega
    · exact hn D o' hD hrD (hl.trans he)
  tape := k.tape.trans h.tape
  os := k.os.trans h.os
  output := k.output.trans h.output
theorem Step.agrees {e e' : Env} {A A' : AS} {w w' : World} (h : Step e A w e' A' w') : e.agrees e' A.next := fun B hB => h.env B (.inl hB)
theorem VR.step {e e' : Env} {A A' : AS} {w w' : World} (h : Step e A w e' A' w') {v v' : Value} (hv : VR e A.next v v') : VR e' A'.next v v' :=
  hv.mono h.agrees h.next
theorem VRs.step {e e' : Env} {A A' : AS} {w w' : World} (h : Step e A w e' A' w') {v v' : List Value} (hv : VRs e A.next v v') : VRs e' A'.next v v' :=
  hv.mono h.agrees h.next
theorem ObjAt.mono {e e' : Env} {n n' ro : Nat} {w w' : World} {B : Nat} {o : AObj} (h : ObjAt e n ro w B o) (hB : B < n) (ha : e.agrees e' n) (hn : n ≤ n')
    (hw : w'.heap[e.loc B]? = w.heap[e.loc B]?) : ObjAt e' n' ro w' B o := by
  obtain ⟨a1, a2, a3⟩ := ha B hB
  cases o with
  | cells cs esz ext =>
    obtain ⟨ccs, T, fr, hb, hx, hs, hc, hf⟩ := h
    refine ⟨ccs, T, fr, ?_, ?_, ?_, ?_, ?_⟩
    · rw [a1, hw]; exact hb
    · rw [a3]; exact hx
    · rw [a2, a3]; exact hs
    · intro i v hi
      obtain ⟨v', hv', r⟩ := hc i v hi
      exact ⟨v', by rw [a2]; exact hv', r.mono ha hn⟩
    · rw [a2, a3]; exact hf
  | map es clock =>
    obtain ⟨ces, hb, hs, hc⟩ := h
    refine ⟨ces, by rw [a1, hw]; exact hb, hs, fun i en hi => ?_⟩
    obtain ⟨cen, h1, h2, h3, h4, h5⟩ := hc i en hi
    exact ⟨cen, h1, h2, h3, h4, h5.mono ha hn⟩
  | siter s pos => exact ⟨by rw [a2]; exact h.1, by rw [a1, hw]; exact h.2⟩
  | miter m since seen st =>
    refine ⟨by rw [a2]; exact h.1, fun b hb => Nat.lt_of_lt_of_le (h.2.1 b hb) hn, ?_⟩
    rw [a1, hw, h.2.2]
    cases m with
    | none => rfl
    | some b => simp [(ha b (h.2.1 b rfl)).1]
  | loop fn t nt params assign body st pending dl =>
    obtain ⟨hdl, tmps, ht, hb⟩ := h
    refine ⟨Nat.lt_of_lt_of_le hdl hn, tmps, ht.mono ha hn, ?_⟩
    rw [a1, hw, hb, (ha dl hdl).1]
  | dlist =>
    show w'.heap[e'.loc B]? = some (.deferred (some []))
    rw [a1, hw]; exact h
def Env.bind (e : Env) (B b o x : Nat) : Env where
  loc := fun C => if C = B then b else e.loc C
  off := fun C => if C = B then o else e.off C
  ext := fun C => if C = B then x else e.ext C
theorem Env.agrees_bind (e : Env) (B b o x : Nat) : e.agrees (e.bind B b o x) B := fun C hC => by
  have : C ≠ B := by omega
  simp [Env.bind, this]
def _root_.Go.World.push (w : World) (o : Obj) : World := { w with heap := w.heap.push o }
theorem push_get_lt (w : World) (o : Obj) {b : Nat} (h : b < w.heap.size) : (w.push o).heap[b]? = w.heap[b]? := by
  show (w.heap.push o)[b]? = w.heap[b]?
  rw [Array.getElem?_push, if_neg (Nat.ne_of_lt h)]
theorem push_get_eq (w : World) (o : Obj) : (w.push o).heap[w.heap.size]? = some o := by
  show (w.heap.push o)[w.heap.size]? = some o
  simp
theorem new_sound {e : Env} {A : AS} {w : World} (hi : Inv e A w) (o : AObj) (c : Obj) (x : Nat)
    (fits : ObjAt (e.bind A.next w.heap.size 0 x) (A.next + 1) A.ro (w.push c) A.next o) :
    Inv (e.bind A.next w.heap.size 0 x) (A.new o) (w.push c) ∧ Step e A w (e.bind A.next w.heap.size 0 x) (A.new o) (w.push c) := by
  have ha := e.agrees_bind A.next w.heap.size 0 x
  have hloc : ∀ B, B < A.next → (e.bind A.next w.heap.size 0 x).loc B = e.loc B := fun B hB => (ha B hB).1
  have hnext : (e.bind A.next w.heap.size 0 x).loc A.next = w.heap.size := by simp [Env.bind]
  constructor
  · constructor
    · intro B o' hB
      rw [AS.get_new] at hB
      by_cases hn : A.next = B
      · subst hn
        simp at hB; subst hB
        exact fits
      · simp [hn] at hB
        have hlt := hi.dom B o' hB
        have ho := hi.obj B o' hB
        exact ho.mono hlt ha (Nat.le_succ _) (push_get_lt w c ho.lt)
    · intro B o' hB
      rw [AS.get_new] at hB
      by_cases hn : A.next = B
      · subst hn; exact Nat.lt_succ_self _
      · simp [hn] at hB
        exact Nat.lt_succ_of_lt (hi.dom B o' hB)
    · intro B B' o1 o2 h1 h2 hne hr
      rw [AS.get_new] at h1 h2
      by_cases hn : A.next = B
      · subst hn
        have hn' : ¬ A.next = B' := hne
        simp [hn'] at h2
        rw [hnext, hloc B' (hi.dom B' o2 h2)]
        have := (hi.obj B' o2 h2).lt
        omega
      · simp [hn] at h1
        rw [hloc B (hi.dom B o1 h1)]
        by_cases hn' : A.next = B'
        · subst hn'
          rw [hnext]
          have := (hi.obj B o1 h1).lt
          omega
        · simp [hn'] at h2
          rw [hloc B' (hi.dom B' o2 h2)]
          exact hi.inj B B' o1 o2 h1 h2 hne hr
    · exact Nat.le_succ_of_le hi.le
  · refine { env := ?_, next := Nat.le_succ _, ro := rfl, fixed := ?_, locs := ?_, size := by simp [World.push], keep := fun b hb _ => push_get_lt w c hb, tape := rfl, os := rfl, output := rfl }
    · intro B hB
      have : B ≠ A.next := by
        have h1 : (A.new o).next = A.next + 1 := rfl
        omega
      simp [Env.bind, this]
    · intro B hB
      rw [AS.get_new]
      have := hi.le
      have : ¬ A.next = B := by omega
      simp [this]
    · intro B o' hB hr
      rw [AS.get_new] at hB
      by_cases hn : A.next = B
      · subst hn; left; rw [hnext]; exact Nat.le_refl _
      · simp [hn] at hB
        right
        exact ⟨B, o', hB, hr, (hloc B (hi.dom B o' hB)).symm⟩
theorem new_cells {e : Env} {A : AS} {w : World} (hi : Inv e A w) {cs : List Value} {ccs : Array Value} (T : TypeId) (esz : Nat)
    (hr : VRs e A.next cs ccs.toList) :
    ∃ e', Inv e' (A.new (.cells cs esz false)) (w.push (.cells ccs T)) ∧ Step e A w e' (A.new (.cells cs esz false)) (w.push (.cells ccs T)) ∧
      e'.loc A.next = w.heap.size ∧ e'.off A.next = 0 ∧ e'.ext A.next = 0 := by
  refine ⟨e.bind A.next w.heap.size 0 0, ?_⟩
  have := new_sound hi (.cells cs esz false) (.cells ccs T) 0 ?_
  · exact ⟨this.1, this.2, by simp [Env.bind], by simp [Env.bind], by simp [Env.bind]⟩
  · refine ⟨ccs, T, (0, 0), ?_, fun _ => by simp [Env.bind], ?_, ?_, ?_⟩
    · simp only [Env.bind, if_true]; exact push_get_eq w _
    · simp [Env.bind]; have := hr.length; simp at this; omega
    · intro i v hv
      obtain ⟨y, hy, r⟩ := hr.get hv
      refine ⟨y, ?_, r.mono (e.agrees_bind _ _ _ _) (Nat.le_succ _)⟩
      simp [Env.bind]; simpa using hy
    · intro _ j h1 h2; simp
end Go.Dp
namespace Go.Dp
theorem write_sound {e : Env} {A : AS} {w w' : World} (hi : Inv e A w) {B : Nat} {o o' : AObj} (hB : A.get B = some o) (hr : A.ro ≤ B)
    (hsize : w'.heap.size = w.heap.size) (hother : ∀ b, b ≠ e.loc B → w'.heap[b]? = w.heap[b]?) (htape : w'.tape = w.tape) (hos : w'.os = w.os)
    (hout : w'.output = w.output) (ho' : ObjAt e A.next A.ro w' B o') :
    Inv e (A.put B (some o')) w' ∧ Step e A w e (A.put B (some o')) w' := by
  constructor
  · constructor
    · intro C oC hC
      rw [AS.get_put] at hC
      by_cases h : B = C
      · subst h; simp at hC; subst hC; exact ho'
      · simp [h] at hC
        have hlt := hi.dom C oC hC
        exact (hi.obj C oC hC).mono hlt (fun _ _ => ⟨rfl, rfl, rfl⟩) (Nat.le_refl _) (hother _ (hi.inj B C o oC hB hC h hr).symm)
    · intro C oC hC
      rw [AS.get_put] at hC
      by_cases h : B = C
      · subst h; exact hi.dom B o hB
      · simp [h] at hC; exact hi.dom C oC hC
    · intro C C' o1 o2 h1 h2 hne hrC
      rw [AS.get_put] at h1 h2
      by_cases h : B = C
      · subst h
        simp [hne] at h2
        exact hi.inj B C' o o2 hB h2 hne hr
      · simp [h] at h1
        by_cases h' : B = C'
        · subst h'; exact hi.inj C B o1 o h1 hB hne hrC
        · simp [h'] at h2; exact hi.inj C C' o1 o2 h1 h2 hne hrC
    · exact hi.le
  · refine { env := fun _ _ => ⟨rfl, rfl, rfl⟩, next := Nat.le_refl _, ro := rfl, fixed := ?_, locs := ?_, size := Nat.le_of_eq hsize.symm, keep := ?_, tape := htape, os := hos, output := hout }
    · intro C hC
      rw [AS.get_put]
      have : ¬ B = C := by omega
      simp [this]
    · intro C oC hC hrC
      rw [AS.get_put] at hC
      by_cases h : B = C
      · subst h; exact .inr ⟨B, o, hB, hr, rfl⟩
      · simp [h] at hC; exact .inr ⟨C, oC, hC, hrC, rfl⟩
    · intro b _ hn
      exact hother b (fun h => hn B o hB hr h.symm)
theorem drop_sound {e : Env} {A : AS} {w w' : World} (hi : Inv e A w) {B : Nat} {o : AObj} (hB : A.get B = some o) (hr : A.ro ≤ B)
    (hsize : w'.heap.size = w.heap.size) (hother : ∀ b, b ≠ e.loc B → w'.heap[b]? = w.heap[b]?) (htape : w'.tape = w.tape) (hos : w'.os = w.os)
    (hout : w'.output = w.output) :
    Inv e (A.put B none) w' ∧ Step e A w e (A.put B none) w' := by
  constructor
  · constructor
    · intro C oC hC
      rw [AS.get_put] at hC
      by_cases h : B = C
      · subst h; simp at hC
      · simp [h] at hC
        have hlt := hi.dom C oC hC
        exact (hi.obj C oC hC).mono hlt (fun _ _ => ⟨rfl, rfl, rfl⟩) (Nat.le_refl _) (hother _ (hi.inj B C o oC hB hC h hr).symm)
    · intro C oC hC
      rw [AS.get_put] at hC
      by_cases h : B = C
      · subst h; simp at hC
      · simp [h] at hC; exact hi.dom C oC hC
    · intro C C' o1 o2 h1 h2 hne hrC
      rw [AS.get_put] at h1 h2
      by_cases h : B = C
      · subst h; simp at h1
      · simp [h] at h1
        by_cases h' : B = C'
        · subst h'; simp at h2
        · simp [h'] at h2; exact hi.inj C C' o1 o2 h1 h2 hne hrC
    · exact hi.le
  · refine { env := fun _ _ => ⟨rfl, rfl, rfl⟩, next := Nat.le_refl _, ro := rfl, fixed := ?_, locs := ?_, size := Nat.le_of_eq hsize.symm, keep := ?_, tape := htape, os := hos, output := hout }
    · intro C hC
      rw [AS.get_put]
      have : ¬ B = C := by omega
      simp [this]
    · intro C oC hC hrC
      rw [AS.get_put] at hC
      by_cases h : B = C
      · subst h; simp at hC
      · simp [h] at hC; exact .inr ⟨C, oC, hC, hrC, rfl⟩
    · intro b _ hn
      exact hother b (fun h => hn B o hB hr h.symm)
theorem Inv.drawn {e : Env} {A : AS} {w : World} (n : Nat) (hi : Inv e A w) : Inv e A { w with drawn := n } where
  obj := fun B o h => (hi.obj B o h).mono (hi.dom B o h) (fun _ _ => ⟨rfl, rfl, rfl⟩) (Nat.le_refl _) rfl
  dom := hi.dom
  inj := hi.inj
  le := hi.le
theorem Step.drawn (e : Env) (A : AS) (w : World) (n : Nat) : Step e A w e A { w with drawn := n } where
  env := fun _ _ => ⟨rfl, rfl, rfl⟩
  next := Nat.le_refl _
  ro := rfl
  fixed := fun _ _ => rfl
  locs := fun B o h hr => .inr ⟨B, o, h, hr, rfl⟩
  size := Nat.le_refl _
  keep := fun _ _ _ => rfl
  tape := rfl
  os := rfl
  output := rfl
def splice (cs : List Value) (o : Nat) (vs : List Value) : List Value := cs.take o ++ (vs ++ cs.drop (o + vs.length))
theorem splice_length {cs : List Value} {o : Nat} {vs : List Value} (h : o + vs.length ≤ cs.length) : (splice cs o vs).length = cs.length := by
  simp [splice]; omega
theorem splice_get {cs : List Value} {o : Nat} {vs : List Value} (h : o + vs.length ≤ cs.length) (i : Nat) :
    (splice cs o vs)[i]? = if i < o then cs[i]? else if i < o + vs.length then vs[i - o]? else cs[i]? := by
  unfold splice
  rw [List.getElem?_append]
  have hl : (cs.take o).length = o := by simp; omega
  rw [hl]
  by_cases h1 : i < o
  · simp [h1]
  · simp only [h1, if_false]
    rw [List.getElem?_append]
    by_cases h2 : i - o < vs.length
    · have h2' : i < o + vs.length := by omega
      simp [h2, h2']
    · have h2' : ¬ i < o + vs.length := by omega
      simp only [h2, h2', if_false, List.getElem?_drop]
      congr 1; omega
theorem setCells_heap (b : Nat) : ∀ (vs : List Value) (o : Nat) (w : World) (ccs : Array Value) (T : TypeId) (fr : Nat × Nat), w.heap[b]? = some (.cells ccs T fr) →
    o + vs.length ≤ ccs.size →
    (∃ ccs', (w.setCells b o vs).heap[b]? = some (.cells ccs' T fr) ∧ ccs'.size = ccs.size ∧
      ∀ i, ccs'[i]? = if o ≤ i ∧ i < o + vs.length then vs[i - o]? else ccs[i]?) ∧
    (w.setCells b o vs).heap.size = w.heap.size ∧ (∀ c, c ≠ b → (w.setCells b o vs).heap[c]? = w.heap[c]?) ∧ (w.setCells b o vs).tape = w.tape ∧
    (w.setCells b o vs).os = w.os ∧ (w.setCells b o vs).output = w.output
  | [], o, w, ccs, T, fr, h, _ => by
    refine ⟨⟨ccs, h, rfl, fun i => ?_⟩, rfl, fun _ _ => rfl, rfl, rfl, rfl⟩
    have : ¬ (o ≤ i ∧ i < o + ([] : List Value).length) := by simp
    rw [if_neg this]
  | v :: vs, o, w, ccs, T, fr, h, hl => by
    have hlt : b < w.heap.size := by
      rcases Nat.lt_or_ge b w.heap.size with hb | hb
      · exact hb
      · simp [Array.getElem?_eq_none hb] at h
    have h1 : (w.setCell ⟨b, o, none⟩ v).heap[b]? = some (.cells (ccs.setIfInBounds o v) T fr) := by
      simp [World.setCell, Array.getElem?_modify, h]
    have hsz : (w.setCell ⟨b, o, none⟩ v).heap.size = w.heap.size := by simp [World.setCell]
    have hoth : ∀ c, c ≠ b → (w.setCell ⟨b, o, none⟩ v).heap[c]? = w.heap[c]? := by
      intro c hc
      simp [World.setCell, Array.getElem?_modify, Ne.symm hc]
    simp at hl
    obtain ⟨⟨ccs', hb, hs, hg⟩, r1, r2, r3, r4, r5⟩ := setCells_heap b vs (o + 1) _ _ T fr h1 (by simp; omega)
    refine ⟨⟨ccs', hb, by rw [hs]; simp, fun i => ?_⟩, r1.trans hsz, fun c hc => (r2 c hc).trans (hoth c hc), r3, r4, r5⟩
    rw [hg i]
    by_cases ho : i = o
    · subst ho
      have c1 : ¬ (i + 1 ≤ i ∧ i < i + 1 + vs.length) := by omega
      have c2 : i ≤ i ∧ i < i + (v :: vs).length := by simp
      rw [if_neg c1, if_pos c2]
      have : i < ccs.size := by omega
      simp [this]
    · by_cases hc : o + 1 ≤ i ∧ i < o + 1 + vs.length
      · have c2 : o ≤ i ∧ i < o + (v :: vs).length := by simp; omega
        rw [if_pos hc, if_pos c2]
        have : i - o = (i - (o + 1)) + 1 := by omega
        rw [this]; simp
      · have c2 : ¬ (o ≤ i ∧ i < o + (v :: vs).length) := by simp; omega
        rw [if_neg hc, if_neg c2]
        simp [Ne.symm ho]
end Go.Dp
namespace Go.Dp
def pureRun {α : Type} (P : Program) : Sem α → Option α
  | .pure a => some a
  | .program k => pureRun P (k P)
  | _ => none
theorem pureRun_sound {α : Type} (P : Program) : ∀ (s : Sem α) (a : α), pureRun P s = some a → ∀ w, s.run P w = .ok a w
  | .pure b, a, h, w => by simp only [pureRun, Option.some.injEq] at h; subst h; rfl
  | .program k, a, h, w => by simp only [pureRun] at h; exact pureRun_sound P (k P) a h w
  | .load .., _, h, _ => by simp [pureRun] at h
  | .store .., _, h, _ => by simp [pureRun] at h
  | .new .., _, h, _ => by simp [pureRun] at h
  | .shape .., _, h, _ => by simp [pureRun] at h
  | .freeze .., _, h, _ => by simp [pureRun] at h
  | .frozen .., _, h, _ => by simp [pureRun] at h
  | .getObj .., _, h, _ => by simp [pureRun] at h
  | .setObj .., _, h, _ => by simp [pureRun] at h
  | .choose .., _, h, _ => by simp [pureRun] at h
  | .sys .., _, h, _ => by simp [pureRun] at h
  | .mark .., _, h, _ => by simp [pureRun] at h
  | .halt .., _, h, _ => by simp [pureRun] at h
def tSize (P : Program) (t : TypeId) : Option Nat := match P.info? t with
  | some i => some i.size
  | none => none
def tZero (P : Program) (t : TypeId) : Option Value := match P.info? t with
  | some i => i.zero
  | none => none
def descAgg : TypeDesc → Bool
  | .struct _ | .array _ _ => true
  | _ => false
def tAgg (P : Program) (t : TypeId) : Option Bool := match P.underlying t with
  | some d => some (descAgg d)
  | none => none
inductive ANext where
  | value (v : Value)
  | skip
  | enter (f : FuncId) (args : List Value)
  | defer (d : Deferred)
  | round (l : Nat) (args : List Value)
def piece (cs : List Value) (o n : Nat) : Option (List Value) :=
  let l := (cs.drop o).take n
  if l.length == n then some l else none
def aLoad (P : Program) (A : AS) (t : TypeId) : Value → Option Value
  | .pointer (some ⟨B, o, none⟩) => match A.get B with
    | some (.cells cs _ _) => match tAgg P t with
      | some true => match tSize P t with
        | some n => (piece cs o n).map fun l => .agg ⟨l⟩
        | none => none
      | some false => cs[o]?
      | none => none
    | _ => none
  | _ => none
def storeAll (A : AS) (B o : Nat) (vs : List Value) : Option AS :=
  match A.get B with
  | some (.cells cs z x) =>
    if Nat.ble A.ro B && Nat.ble (o + vs.length) cs.length && vs.all Value.oneCell' then some (A.put B (some (.cells (splice cs o vs) z x))) else none
  | _ => none
def aStore (P : Program) (A : AS) (t : TypeId) (a v : Value) : Option AS :=
  match a with
  | .pointer (some ⟨B, o, none⟩) => match tSize P t with
    | some n => if Nat.beq v.cells.size n then storeAll A B o v.cells.toList else none
    | none => none
  | _ => none
def aNew (A : AS) (cs : List Value) (esz : Nat) : Value × AS := (.pointer (some ⟨A.next, 0, none⟩), A.new (.cells cs esz false))
def aPlaces (P : Program) (t : TypeId) : Option (Nat → Option (Nat × Nat)) :=
  match P.underlying t with
  | some (.struct fields) => if fields.all fun f => (P.info? f.type).isSome then
      some fun i => (fields[i]?).map fun f => (f.offset, ((P.info? f.type).map (·.size)).getD 0) else none
  | some (.array _ el) => match tSize P el with
    | some n => some fun i => some (i * n, n)
    | none => none
  | _ => none
def aBuild (P : Program) (t : TypeId) (parts : List (Nat × Value)) : Option Value :=
  match tZero P t, aPlaces P t with
  | some z, some pl => if flat z then (Instr.fill pl z.cells parts).map .agg else none
  | _, _ => none
def pattern (z : Array Value) (n : Nat) : List Value := (List.range n).map fun i => z[i % z.size]!
def aBuildSlice (P : Program) (A : AS) (t : TypeId) (len : Nat) (parts : List (Nat × Value)) : Option (Value × AS) :=
  match P.underlying t with
  | some (.slice el) => match P.info? el with
    | some i => match i.zero with
      | some z => if flat z && Nat.ble (len * i.size) (2 ^ 24) then
          match Instr.fill (fun k => some (k * i.size, i.size)) ⟨pattern z.cells (len * i.size)⟩ parts with
          | some cells => some (.slice (some ⟨A.next, 0, none⟩) len len, A.new (.cells cells.toList i.size false))
          | none => none
        else none
      | none => none
    | none => none
  | _ => none
def aNilCheck : Value → Option Value
  | .pointer (some a) => some (.pointer (some a))
  | .func (.func f) xs us => some (.func (.func f) xs us)
  | _ => none
def aEq (P : Program) (t : TypeId) (a b : Value) : Option Bool :=
  match P.underlying t, a, b with
  | some (.pointer _), .pointer none, .pointer (some _) => some false
  | some (.pointer _), .pointer (some _), .pointer none => some false
  | some (.pointer el), .pointer (some ⟨B, o, none⟩), .pointer (some ⟨C, p, none⟩) =>
    match tSize P el with
    | some n => if !(Nat.beq n 0) && Nat.beq B C then some (Nat.beq o p) else none
    | none => none
  | some (.slice _), .slice none _ _, .slice (some _) _ _ => some false
  | some (.slice _), .slice (some _) _ _, .slice none _ _ => some false
  | some (.map _ _), .map none, .map (some _) => some false
  | some (.map _ _), .map (some _), .map none => some false
  | some (.func _ _ _), .nilFunc, .func _ _ _ => some false
  | some (.func _ _ _), .func _ _ _, .nilFunc => some false
  | _, _, _ => none
def aFieldAddr (P : Program) (s : TypeId) (a : Value) (k : Nat) : Option Value :=
  match P.underlying s, a with
  | some (.struct fields), .pointer (some ⟨B, o, none⟩) => match fields[k]? with
    | some f => match tSize P f.type with
      | some n => if Nat.beq n 0 then none else some (.pointer (some ⟨B, o + f.offset, none⟩))
      | none => none
    | none => none
  | _, _ => none
def aIndexAddr (P : Program) (t : TypeId) (x i : Value) : Option Value :=
  match i with
  | .int _ n => match P.underlying t, x with
    | some (.slice el), .slice (some ⟨B, o, none⟩) len _ => match tSize P el with
      | some z => if decide (0 ≤ n) && decide (n < (len : Int)) then some (.pointer (some ⟨B, o + n.toNat * z, none⟩)) else none
      | none => none
    | some (.array len el), .pointer (some ⟨B, o, none⟩) => match tSize P el with
      | some z => if decide (0 ≤ n) && decide (n < (len : Int)) then some (.pointer (some ⟨B, o + n.toNat * z, none⟩)) else none
      | none => none
    | _, _ => none
  | _ => none
def aPart (P : Program) (t : TypeId) (cs : Array Value) (off : Nat) : Option Value :=
  match tAgg P t with
  | some true => match tSize P t with
    | some n => some (.agg (cs.extract off (off + n)))
    | none => none
  | some false => cs[off]?
  | none => none
def aField (P : Program) (t : TypeId) (x : Value) (k : Nat) : Option Value :=
  match P.underlying t, x with
  | some (.struct fields), .agg cs => match fields[k]? with
    | some f => aPart P f.type cs f.offset
    | none => none
  | _, _ => none
def aIndex (P : Program) (t : TypeId) (x i : Value) : Option Value :=
  match i with
  | .int _ n => match P.underlying t, x with
    | some (.array len el), .agg cs => match tSize P el with
      | some z => if decide (0 ≤ n) && decide (n < (len : Int)) then aPart P el cs (n.toNat * z) else none
      | none => none
    | _, _ => none
  | _ => none
def aExtract : Value → Nat → Option Value
  | .tuple vs, i => vs[i]?
  | _, _ => none
def aBound (v : Option Value) (dflt top : Nat) : Option Nat :=
  match v with
  | none => some dflt
  | some (.int _ n) => if decide (0 ≤ n) && decide (n ≤ (top : Int)) then some n.toNat else none
  | _ => none
def aSlice (P : Program) (A : AS) (t : TypeId) (x : Value) (lo hi mx : Option Value) : Option Value :=
  match P.underlying t, x with
  | some (.slice el), .slice (some ⟨B, o, sp⟩) len c => match tSize P el with
    | some z => match mx with
      | some m => match lo, hi, m, sp with
        | none, some (.int _ 0), .int _ 0, none => some (.slice (some ⟨B, o, some 0⟩) 0 0)
        | _, _, _, _ => none
      | none => match aBound hi len c with
        | some h => match aBound lo 0 h with
          | some l => match sp with
            | none =>
              if Nat.blt l c || Nat.beq l 0 then some (.slice (some ⟨B, o + l * z, none⟩) (h - l) (c - l))
              else if Nat.beq l c && Nat.beq h l then
                match A.get B with
                | some (.cells _ _ false) => some (.slice (some ⟨B, o, none⟩) 0 0)
                | some (.cells _ _ true) => match l * z with
                  | k + 1 => some (.slice (some ⟨B, o, some (k + 1)⟩) 0 0)
                  | 0 => none
                | _ => none
              else none
            | some s => if Nat.beq len 0 && Nat.beq c 0 && Nat.beq h 0 && Nat.beq l 0 then some (.slice (some ⟨B, o, some s⟩) 0 0) else none
          | none => none
        | none => none
    | none => none
  | some (.array n el), .pointer (some ⟨B, o, none⟩) => match tSize P el with
    | some z => match mx, A.get B with
      | none, some (.cells _ _ false) => match aBound hi n n with
        | some h => match aBound lo 0 h with
          | some l => if Nat.blt l n then some (.slice (some ⟨B, o + l * z, none⟩) (h - l) (n - l)) else none
          | none => none
        | none => none
      | _, _ => none
    | none => none
  | _, _ => none
def aMakeSlice (P : Program) (A : AS) (t : TypeId) (len cap : Value) : Option (Value × AS) :=
  match P.underlying t, len, cap with
  | some (.slice el), .int _ l, .int _ c => match P.info? el with
    | some i => match i.zero with
      | some z =>
        if flat z && decide (0 ≤ l) && decide (l ≤ c) && decide (c ≤ (2 : Int) ^ 40) && Nat.ble (i.bytes * c.toNat) (2 ^ 47) then
          some (.slice (some ⟨A.next, 0, none⟩) l.toNat c.toNat, A.new (.cells (pattern z.cells (c.toNat * i.size)) i.size false))
        else none
      | none => none
    | none => none
  | _, _, _ => none
def firstOf (A : AS) (size n : Nat) : Value → Option (List Value)
  | .slice none _ _ => some []
  | .slice (some ⟨B, o, none⟩) _ _ => match A.get B with
    | some (.cells cs _ _) => piece cs o (n * size)
    | _ => none
  | .slice (some ⟨_, _, some _⟩) 0 0 => if Nat.beq n 0 then some [] else none
  | .string s => if Nat.beq n s.size then some (s.data.toList.map fun b => .int .u8 b.toNat) else none
  | _ => none
def lenA : Value → Option Nat
  | .slice _ n _ => some n
  | .string s => some s.size
  | _ => none
def isIntD : TypeDesc → Bool
  | .int _ => true
  | _ => false
def grown (A : AS) (cs : List Value) (size n : Nat) : Value × AS := (.slice (some ⟨A.next, 0, none⟩) n n, A.new (.cells cs size true))
def aAppend (P : Program) (A : AS) (argTypes : Array TypeId) (s x : Value) : Option (Value × AS) :=
  match argTypes[0]?, argTypes[1]? with
  | some sT, some xT => match P.underlying sT, P.underlying xT with
    | some (.slice el), some xd => match P.info? el with
      | some i => match i.zero, lenA x with
        | some z, some n => match firstOf A i.size n x with
          | some vs =>
            if !(isIntD xd) && Nat.beq z.cells.size i.size && Nat.beq vs.length (n * i.size) && vs.all Value.oneCell' then
              match s with
              | .slice none 0 0 => if Nat.beq n 0 then some (.slice none 0 0, A) else if Nat.ble (n * (i.bytes + 1)) (2 ^ 46) then some (grown A vs i.size n) else none
              | .slice (some ⟨B, o, none⟩) len c =>
                if Nat.ble (len + n) c then
                  if Nat.beq n 0 then some (.slice (some ⟨B, o, none⟩) len c, A) else
                  match storeAll A B (o + len * i.size) vs with
                  | some A' => some (.slice (some ⟨B, o, none⟩) (len + n) c, A')
                  | none => none
                else if Nat.ble ((len + n) * (i.bytes + 1)) (2 ^ 46) then
                  match A.get B with
                  | some (.cells cs zz ext) => match piece cs o (len * i.size) with
                    | some old =>
                      if ext then
                        if Nat.ble A.ro B && Nat.beq zz i.size && Nat.beq (o + c * i.size) cs.length then some (grown (A.put B none) (old ++ vs) i.size (len + n)) else none
                      else some (grown A (old ++ vs) i.size (len + n))
                    | none => none
                  | _ => none
                else none
              | .slice (some ⟨B, o, some 0⟩) 0 0 => if Nat.beq n 0 then some (.slice (some ⟨B, o, some 0⟩) 0 0, A) else if Nat.ble (n * (i.bytes + 1)) (2 ^ 46) then some (grown A vs i.size n) else none
              | .slice (some ⟨B, o, some (k + 1)⟩) 0 0 =>
                if Nat.beq n 0 then some (.slice (some ⟨B, o, some (k + 1)⟩) 0 0, A) else
                if Nat.ble (n * (i.bytes + 1)) (2 ^ 46) then
                  match A.get B with
                  | some (.cells cs zz true) =>
                    if Nat.ble A.ro B && Nat.beq zz i.size && Nat.beq (o + (k + 1)) cs.length then some (grown (A.put B none) vs i.size n) else none
                  | _ => none
                else none
              | _ => none
            else none
          | none => none
        | _, _ => none
      | none => none
    | _, _ => none
  | _, _ => none
def aCopy (P : Program) (A : AS) (argTypes : Array TypeId) (d s : Value) : Option (Value × AS) :=
  match argTypes[0]? with
  | some dT => match P.underlying dT with
    | some (.slice el) => match tSize P el, lenA s with
      | some size, some m => match d with
        | .slice (some ⟨B, o, none⟩) len _ => match firstOf A size (Nat.min m len) s with
          | some vs => match storeAll A B o vs with
            | some A' => some (.int .i64 (Nat.min m len), A')
            | none => none
          | none => none
        | _ => none
      | _, _ => none
    | _ => none
  | none => none
def aLen (P : Program) (A : AS) (argTypes : Array TypeId) (x : Value) : Option Value :=
  match argTypes[0]? with
  | some t => match P.underlying t, x with
    | some (.slice _), .slice _ n _ => some (.int .i64 n)
    | some (.map _ _), .map (some B) => match A.get B with
      | some (.map es _) => some (.int .i64 es.length)
      | _ => none
    | some (.array n _), _ => some (.int .i64 n)
    | _, _ => none
  | none => none
def aCap (P : Program) (A : AS) (argTypes : Array TypeId) (x : Value) : Option Value :=
  match argTypes[0]? with
  | some t => match P.underlying t, x with
    | some (.slice _), .slice (some ⟨B, _, none⟩) _ c => match A.get B with
      | some (.cells _ _ false) => some (.int .i64 c)
      | _ => none
    | _, _ => none
  | none => none
def keysOf (es : List MapEntry) : List MapEntry := es.map fun e => { e with val := .nilIface }
def aFind (P : Program) (kt : TypeId) (k : Value) (es : List MapEntry) : Option (Option Nat) :=
  match pureRun P (Instr.findKey kt k (keysOf es)) with
  | some (some (i, _)) => some (some i)
  | some none => some none
  | none => none
def aKeyOk (P : Program) (empty : Bool) (kt : TypeId) (k : Value) : Bool :=
  flat k && (match pureRun P (Instr.checkKey empty 10000 kt k) with | some _ => true | none => false)
def aLookup (P : Program) (A : AS) (t : TypeId) (x k : Value) (ok : Bool) : Option Value :=
  match P.underlying t with
  | some (.map kt vt) =>
    match (match x with
      | .map none => some []
      | .map (some B) => match A.get B with
        | some (.map es _) => some es
        | _ => none
      | _ => none : Option (List MapEntry)) with
    | some es => if aKeyOk P es.isEmpty kt k then
        match aFind P kt k es with
        | some (some i) => match es[i]? with
          | some en => some (if ok then .tuple #[en.val, .bool true] else en.val)
          | none => none
        | some none => match tZero P vt with
          | some z => if flat z then some (if ok then .tuple #[z, .bool false] else z) else none
          | none => none
        | none => none
      else none
    | none => none
  | _ => none
def aMapUpdate (P : Program) (A : AS) (t : TypeId) (m k v : Value) : Option AS :=
  match P.underlying t, m with
  | some (.map kt _), .map (some B) => match A.get B with
    | some (.map es clock) => if aKeyOk P false kt k && Nat.ble A.ro B then
        match aFind P kt k es with
        | some (some i) => match es[i]? with
          | some en => if Instr.sameBits 10000 en.key k then some (A.put B (some (.map (es.set i { en with key := k, val := v }) clock))) else none
          | none => none
        | some none => some (A.put B (some (.map (es ++ [{ key := k, val := v, born := clock }]) (clock + 1))))
        | none => none
      else none
    | _ => none
  | _, _ => none
def aMapEntry (P : Program) (A : AS) (t : TypeId) (m k : Value) : Option (Value × AS) :=
  match P.underlying t, m with
  | some (.map kt vt), .map (some B) => match A.get B with
    | some (.map es clock) => if aKeyOk P false kt k && Nat.ble A.ro B then
        match aFind P kt k es with
        | some (some i) => match es[i]? with
          | some en => if Instr.sameBits 10000 en.key k then
              some (.tuple #[en.val, .int .i64 en.born], A.put B (some (.map (es.set i { en with key := k }) clock))) else none
          | none => none
        | some none => match tZero P vt with
          | some z => if flat z then some (.tuple #[z, .int .i64 clock], A.put B (some (.map (es ++ [{ key := k, val := z, born := clock }]) (clock + 1)))) else none
          | none => none
        | none => none
      else none
    | _ => none
  | _, _ => none
def aEntryStore (A : AS) (m s v : Value) : Option AS :=
  match m, s with
  | .map (some B), .int _ n => match A.get B with
    | some (.map es clock) => if Nat.ble A.ro B then
        match es.findIdx? (fun e => decide ((e.born : Int) = n)) with
        | some i => match es[i]? with
          | some en => some (A.put B (some (.map (es.set i { en with val := v }) clock)))
          | none => none
        | none => none
      else none
    | _ => none
  | _, _ => none
def aDelete (P : Program) (A : AS) (argTypes : Array TypeId) (m k : Value) : Option AS :=
  match argTypes[0]? with
  | some t => match P.underlying t, m with
    | some (.map kt _), .map (some B) => match A.get B with
      | some (.map es clock) => if aKeyOk P es.isEmpty kt k && Nat.ble A.ro B then
          match aFind P kt k es with
          | some (some i) => some (A.put B (some (.map (es.eraseIdx i) clock)))
          | some none => some (A.put B (some (.map es clock)))
          | none => none
        else none
      | _ => none
    | _, _ => none
  | none => none
def aRange (P : Program) (A : AS) (t : TypeId) (x : Value) : Option (Value × AS) :=
  match P.underlying t, x with
  | some .string, .string s => some (.pointer (some ⟨A.next, 0, none⟩), A.new (.siter s 0))
  | some (.map _ _), .map none => some (.pointer (some ⟨A.next, 0, none⟩), A.new (.miter none 0 #[] 0))
  | some (.map _ _), .map (some B) => match A.get B with
    | some (.map _ clock) => some (.pointer (some ⟨A.next, 0, none⟩), A.new (.miter (some B) clock #[] clock))
    | _ => none
  | _, _ => none
def aNext (A : AS) (it : Value) (isString : Bool) : Option (Value × AS) :=
  match it with
  | .pointer (some ⟨B, 0, none⟩) => match A.get B, isString with
    | some (.siter s pos), true =>
      if Nat.blt pos s.size then
        let (c, width) := Utf8.decode s pos
        if Nat.ble A.ro B then some (.tuple #[.bool true, .int .i64 pos, .int .i32 c], A.put B (some (.siter s (pos + width)))) else none
      else some (.tuple #[.bool false], A)
    | some (.miter none _ _ _), false => some (.tuple #[.bool false], A)
    | some (.miter (some m) since seen last), false => match A.get m with
      | some (.map es clock) =>
        if !seen.isEmpty && !es.isEmpty && es.all (fun (e : MapEntry) => Nat.ble last e.born) then none else
        let left := es.filter fun (e : MapEntry) => !seen.contains e.born
        let old := left.filter fun (e : MapEntry) => Nat.blt e.born since
        match old, left with
        | [], [] => some (.tuple #[.bool false], A)
        | [en], [_] => if Nat.ble A.ro B then some (.tuple #[.bool true, en.key, en.val], A.put B (some (.miter (some m) since (seen.push en.born) clock))) else none
        | _, _ => none
      | _ => none
    | _, _ => none
  | _ => none
def aEntry (A : AS) (it : Value) : Option Value :=
  match it with
  | .pointer (some ⟨B, 0, none⟩) => match A.get B with
    | some (.miter (some m) _ seen stepped) => match seen.back?, A.get m with
      | some stamp, some (.map es clock) =>
        if Nat.beq clock stepped then match es.find? (fun (e : MapEntry) => Nat.beq e.born stamp) with
          | some en => some (.tuple #[en.key, en.val])
          | none => none
        else none
      | _, _ => none
    | _ => none
  | _ => none
def bytesOf : List Value → ByteArray → Option ByteArray
  | [], s => some s
  | .int .u8 n :: vs, s => bytesOf vs (s.push (UInt8.ofNat n.toNat))
  | _ :: _, _ => none
def aConvert (P : Program) (A : AS) (src dst : TypeId) (x : Value) : Option (Value × AS) :=
  match P.underlying src, P.underlying dst, x with
  | some (.slice el), some .string, .slice (some ⟨B, o, none⟩) len _ => match P.underlying el, A.get B with
    | some (.int .u8), some (.cells cs _ _) => match piece cs o len with
      | some l => match bytesOf l ByteArray.empty with
        | some s => some (.string s, A)
        | none => none
      | none => none
    | _, _ => none
  | some .string, some (.slice el), .string s => match P.underlying el with
    | some (.int .u8) => some (.slice (some ⟨A.next, 0, none⟩) s.size s.size, A.new (.cells (s.data.toList.map fun b => .int .u8 b.toNat) 1 true))
    | _ => none
  | _, _, _ => none
def aResolve (f : Value) (args : List Value) : Option (FuncId × List Value) :=
  match f with
  | .func (.func g) first captured => some (g, first.toList ++ args ++ captured.toList)
  | _ => none
def hasBody (P : Program) (f : FuncId) : Bool := match P.funcs[f]? with
  | some fn => fn.body.isSome && fn.name != "runtime.NumGoroutine"
  | none => false
def aBuiltin (P : Program) (A : AS) (b : Builtin) (argTypes : Array TypeId) (args : List Value) : Option (Value × AS) :=
  match b, args with
  | .append, [s, x] => aAppend P A argTypes s x
  | .copy, [d, s] => aCopy P A argTypes d s
  | .len, [x] => (aLen P A argTypes x).map (·, A)
  | .cap, [x] => (aCap P A argTypes x).map (·, A)
  | .delete, [m, k] => (aDelete P A argTypes m k).map (.tuple #[], ·)
  | _, _ => none
def aSpecial (P : Program) (ρ : Operand → Value) (o : Oper) (A : AS) : Option (ANext × AS) :=
  let v (r : Option Value) : Option (ANext × AS) := r.map fun x => (.value x, A)
  let va (r : Option (Value × AS)) : Option (ANext × AS) := r.map fun (x, A) => (.value x, A)
  let u (r : Option AS) : Option (ANext × AS) := r.map fun A => (.skip, A)
  match o.op with
  | .move x | .assign x => some (.value (ρ x), A)
  | .pick c a b => match ρ c with
    | .bool t => some (.value (if t then ρ a else ρ b), A)
    | _ => none
  | .alloc t => match tZero P t with
    | some z => if flat z then va (some (aNew A z.cells.toList 0)) else none
    | none => none
  | .box _ x => va (some (aNew A (ρ x).cells.toList 0))
  | .build t parts => v (aBuild P t (parts.toList.map fun (i, x) => (i, ρ x)))
  | .buildSlice t len parts => va (aBuildSlice P A t len (parts.toList.map fun (i, x) => (i, ρ x)))
  | .load t a => v (aLoad P A t (ρ a))
  | .store t a x => u (aStore P A t (ρ a) (ρ x))
  | .nilCheck x => v (aNilCheck (ρ x))
  | .binOp .eql t x y _ => v ((aEq P t (ρ x) (ρ y)).map .bool)
  | .binOp .neq t x y _ => v ((aEq P t (ρ x) (ρ y)).map fun b => .bool (!b))
  | .convert s d x => va (aConvert P A s d (ρ x))
  | .makeFunc (.func f) first captured => v (some (.func (.func f) (first.map ρ) (captured.map ρ)))
  | .makeMap t r => match r with
    | none => va (some (.map (some A.next), A.new (.map [] 0)))
    | some h => match P.underlying t, ρ h with
      | some (.map _ _), .int _ _ => va (some (.map (some A.next), A.new (.map [] 0)))
      | _, _ => none
  | .makeSlice t l c => va (aMakeSlice P A t (ρ l) (ρ c))
  | .slice t x lo hi mx => v (aSlice P A t (ρ x) (lo.map ρ) (hi.map ρ) (mx.map ρ))
  | .fieldAddr s x k => v (aFieldAddr P s (ρ x) k)
  | .field t x k => v (aField P t (ρ x) k)
  | .indexAddr t x i => v (aIndexAddr P t (ρ x) (ρ i))
  | .index t x i => v (aIndex P t (ρ x) (ρ i))
  | .lookup t x k ok => v (aLookup P A t (ρ x) (ρ k) ok)
  | .mapUpdate t m k x | .insert t m k x => u (aMapUpdate P A t (ρ m) (ρ k) (ρ x))
  | .mapEntry t m k => va (aMapEntry P A t (ρ m) (ρ k))
  | .entryStore _ m s x => u (aEntryStore A (ρ m) (ρ s) (ρ x))
  | .range t x => va (aRange P A t (ρ x))
  | .next it s => va (aNext A (ρ it) s)
  | .entry it => v (aEntry A (ρ it))
  | .extract t i => v (aExtract (ρ t) i)
  | .call c => match c.callee with
    | .builtin b => va (aBuiltin P A b c.argTypes (c.args.toList.map ρ))
    | .value f => match ρ f with
      | .func (.yield L) _ _ => match A.get L with
        | some (.loop _ _ _ params _ _ _ _ _) => if Nat.beq params.size (c.args.toList.map ρ).length then some (.round L (c.args.toList.map ρ), A) else none
        | _ => none
      | g => match aResolve g (c.args.toList.map ρ) with
        | some (g, args) => if hasBody P g then some (.enter g args, A) else none
        | none => none
    | _ => none
  | .defer c => match c.callee with
    | .value f => match ρ f with
      | .func (.func g) first captured => some (.defer { target := .fn (.func g) captured, args := first ++ (c.args.map ρ) }, A)
      | _ => none
    | _ => none
  | _ => none
def aFlat (P : Program) (ρ : Operand → Value) (o : Oper) : Option Value :=
  match pureRun P (execOp ρ o) with
  | some (.value v) => if flat v then some v else none
  | _ => none
def plainOp (ρ : Operand → Value) (o : Oper) : Bool :=
  match o.op with
  | .binOp .. | .unOp .. | .convert .. | .index .. | .slice .. | .extract .. | .field .. => o.op.operands.all fun x => flat (ρ x)
  | .call c => match c.callee with
    | .builtin b => (match b with | .len | .min | .max | .complex | .real | .imag | .cap => true | _ => false) && c.args.all fun x => flat (ρ x)
    | _ => false
  | _ => false
def aExec (P : Program) (ρ : Operand → Value) (o : Oper) (A : AS) : Option (ANext × AS) :=
  if plainOp ρ o then (aFlat P ρ o).map fun v => (.value v, A) else aSpecial P ρ o A
end Go.Dp
namespace Go.Dp
structure Fr where
  t : Trie Value
  nt : Nat
  defers : List Deferred
  fn : FuncId
  inRound : Bool
inductive AExit where
  | normal
  | exit (id : Nat)
  | goto (l : Nat)
  | ret
abbrev Ran := Option (AExit × Fr × AS)
abbrev CallF := FuncId → List Value → AS → Option (Value × AS)
structure Calls2 where
  call : CallF
  round : CallF
def nGlob : Nat := 64
def opndOk : Operand → Bool
  | .global g => Nat.blt g nGlob
  | .const v => flat v
  | _ => true
def opOk (o : Oper) : Bool := o.op.operands.all opndOk
def ev (fr : Fr) : Operand → Value
  | .tmp k => match fr.t.get k with
    | some v => v
    | none => undef
  | .const v => v
  | .global g => .pointer (some ⟨g, 0, none⟩)
  | .func f => .func (.func f) #[] #[]
def Fr.put (fr : Fr) (dst : Option Tmp) (v : Value) : Option Fr :=
  match dst with
  | none => some fr
  | some d => if Nat.blt d fr.nt then some { fr with t := fr.t.set d (some v) } else none
def yieldedA (ops : Array Oper) (fr : Fr) (j : Nat) : Option Bool :=
  match ops[j]? with
  | some o => match o.dst with
    | some d => match fr.t.get d with
      | some (.bool b) => some b
      | _ => none
    | none => none
  | none => none
def evalOp (P : Program) (call : Calls2) (ops : Array Oper) (o : Oper) (fr : Fr) (A : AS) : Option (Fr × AS) :=
  if Region.wanted o (yieldedA ops fr) then
    if opOk o then
      match aExec P (ev fr) o A with
      | some (.value v, A') => match fr.put o.dst v with
        | some fr' => some (fr', A')
        | none => none
      | some (.skip, A') => match fr.put o.dst undef with
        | some fr' => some (fr', A')
        | none => none
      | some (.enter f args, A') => match call.call f args A' with
        | some (v, A2) => match fr.put o.dst v with
          | some fr' => some (fr', A2)
          | none => none
        | none => none
      | some (.round l args, A') => match call.round l args A' with
        | some (v, A2) => match fr.put o.dst v with
          | some fr' => some (fr', A2)
          | none => none
        | none => none
      | some (.defer d, A') => if fr.inRound then none else match ({ fr with defers := d :: fr.defers } : Fr).put o.dst undef with
        | some fr' => some (fr', A')
        | none => none
      | none => none
    else none
  else match fr.put o.dst undef with
    | some fr' => some (fr', A)
    | none => none
def evalList (P : Program) (call : Calls2) (ops : Array Oper) : List Oper → Fr → AS → Option (Fr × AS)
  | [], fr, A => some (fr, A)
  | o :: rest, fr, A => match evalOp P call ops o fr A with
    | some (fr', A') => evalList P call ops rest fr' A'
    | none => none
def evalStep (P : Program) (call : Calls2) (draw : Array Oper → Fr → AS → Option (Fr × AS)) (ih : Code → Fr → AS → Ran) (c : Code) (fr : Fr) (A : AS) : Ran :=
  match c with
  | .skip => some (.normal, fr, A)
  | .label _ => some (.normal, fr, A)
  | .region _ ops dr => match (if dr then draw ops fr A else evalList P call ops ops.toList fr A) with
    | some (fr', A') => some (.normal, fr', A')
    | none => none
  | .seq a b => match ih a fr A with
    | some (.normal, fr', A') => ih b fr' A'
    | r => r
  | .cond c a b => match ev fr c with
    | .bool t => ih (if t then a else b) fr A
    | _ => none
  | .block id b => match ih b fr A with
    | some (.exit id', fr', A') => if Nat.beq id' id then some (.normal, fr', A') else some (.exit id', fr', A')
    | r => r
  | .loop b => match ih b fr A with
    | some (.normal, fr', A') => ih (.loop b) fr' A'
    | r => r
  | .exit id => some (.exit id, fr, A)
  | .goto l => some (.goto l, fr, A)
  | .ret => some (.ret, fr, A)
  | .rangeFunc f params assign body =>
    if fr.inRound then none else
    match ev fr f with
    | .func (.func g) first captured =>
      let A1 := A.new .dlist
      let A2 := A1.new (.loop fr.fn fr.t fr.nt params assign body .ready none A.next)
      if hasBody P g && opndOk f then
        match call.call g (first.toList ++ [.func (.yield A1.next) #[] #[]] ++ captured.toList) A2 with
        | some (_, A3) => match A3.get A1.next with
          | some (.loop fn t nt params assign body st pending dl) =>
            match st with
            | .busy => none
            | _ => if Nat.ble A3.ro A1.next then
                let fr' := { fr with defers := { target := .collected A.next, args := #[] } :: fr.defers }
                let A4 := A3.put A1.next (some (.loop fn t nt params assign body .exhausted pending dl))
                match pending with
                | none => some (.normal, fr', A4)
                | some c => ih c fr' A4
              else none
          | _ => none
        | none => none
      else none
    | _ => none
  | _ => none
def jumps (run : Code → Fr → AS → Ran) (c : Code) : Nat → Ran → Ran
  | 0, _ => none
  | m + 1, r => match r with
    | some (.goto l, fr, A) => match findLabel c l with
      | some rest => jumps run c m (run rest fr A)
      | none => some (.goto l, fr, A)
    | r => r
def evalCode (P : Program) (call : Calls2) (draw : Array Oper → Fr → AS → Option (Fr × AS)) : Nat → Code → Fr → AS → Ran
  | 0 => fun _ _ _ => none
  | n + 1 => fun c fr A => match c with
    | .scope b => jumps (evalCode P call draw n) b n (evalCode P call draw n b fr A)
    | c => evalStep P call draw (evalCode P call draw n) c fr A
def setAll (t : Trie Value) : Nat → List Value → Trie Value
  | _, [] => t
  | k, v :: vs => setAll (t.set k (some v)) (k + 1) vs
def enterFr (f : FuncId) (fn : Func) (args : List Value) : Fr := { t := setAll .leaf 0 args, nt := max args.length fn.ntmps, defers := [], fn := f, inRound := false }
def setParams (nt : Nat) : Trie Value → List (Tmp × Value) → Trie Value
  | t, [] => t
  | t, (k, v) :: r => setParams nt (if Nat.blt k nt then t.set k (some v) else t) r
def jumpOf : AExit → Option Code
  | .normal => none
  | .exit id => some (.exit id)
  | .goto l => some (.goto l)
  | .ret => some .ret
def evalRound (run : Code → Fr → AS → Ran) (L : Nat) (args : List Value) (A : AS) : Option (Value × AS) :=
  match A.get L with
  | some (.loop fn t nt params assign body _ _ _) =>
    match run assign { t := setParams nt t (params.toList.zip args), nt := nt, defers := [], fn := fn, inRound := true } A with
    | some (.normal, fr, A1) => match A1.get L with
      | some (.loop fn1 t1 nt1 params1 assign1 body1 .ready pending1 dl1) =>
        if Nat.ble A1.ro L then
          match run body fr (A1.put L (some (.loop fn1 t1 nt1 params1 assign1 body1 .busy pending1 dl1))) with
          | some (ex, _, A2) => match A2.get L with
            | some (.loop fn2 t2 nt2 params2 assign2 body2 _ _ dl2) =>
              if Nat.ble A2.ro L then
                some (.bool (jumpOf ex).isNone, A2.put L (some (.loop fn2 t2 nt2 params2 assign2 body2 (if (jumpOf ex).isNone then .ready else .done) (jumpOf ex) dl2)))
              else none
            | _ => none
          | none => none
        else none
      | _ => none
    | _ => none
  | _ => none
def aResult (P : Program) (fr : Fr) (A : AS) : ResultVar → Option Value
  | .tmp t => some (ev fr (.tmp t))
  | .cell a t => aLoad P A t (ev fr (.tmp a))
def aResults (P : Program) (fr : Fr) (A : AS) : List ResultVar → Option (List Value)
  | [] => some []
  | r :: rs => match aResult P fr A r with
    | some v => match aResults P fr A rs with
      | some vs => some (v :: vs)
      | none => none
    | none => none
def told : List Value → Value
  | [v] => v
  | vs => .tuple ⟨vs⟩
def evalBody (P : Program) (call : Calls2) (draw : Array Oper → Fr → AS → Option (Fr × AS)) (fuel : Nat) (f : FuncId) (args : List Value) (A : AS) : Option (Func × Fr × AS) :=
  match P.funcs[f]? with
  | some fn => match fn.body with
    | some c => match evalCode P call draw fuel c (enterFr f fn args) A with
      | some (.normal, fr, A') => some (fn, fr, A')
      | some (.ret, fr, A') => some (fn, fr, A')
      | _ => none
    | none => none
  | none => none
def leave (run : FuncId → List Value → AS → Option (Func × Fr × AS)) (P : Program) : List Deferred → AS → Option AS
  | [], A => some A
  | d :: ds, A => match d.target with
    | .fn (.func g) cap => if hasBody P g then match run g (d.args.toList ++ cap.toList) A with
        | some (fn, fr, A') => if fr.defers.isEmpty && (aResults P fr A' fn.results.toList).isSome then leave run P ds A' else none
        | none => none
      else none
    | .collected L => match A.get L with
      | some .dlist => if Nat.ble A.ro L then leave run P ds (A.put L none) else none
      | _ => none
    | _ => none
abbrev DrawF := Calls2 → Array Oper → Fr → AS → Option (Fr × AS)
def finish (P : Program) (run : FuncId → List Value → AS → Option (Func × Fr × AS)) (r : Option (Func × Fr × AS)) : Option (Value × AS) :=
  match r with
  | some (fn, fr, A') => match leave run P fr.defers A' with
    | some A2 => match aResults P fr A2 fn.results.toList with
      | some vs => some (told vs, A2)
      | none => none
    | none => none
  | none => none
def calls (P : Program) (prim : FuncId → Option (List Value → AS → Option (Value × AS))) (draw : DrawF) (fuel : Nat) : Nat → Calls2
  | 0 => ⟨fun _ _ _ => none, fun _ _ _ => none⟩
  | n + 1 =>
    ⟨fun f args A => match prim f with
      | some p => p args A
      | none =>
        let run := evalBody P (calls P prim draw fuel n) (draw (calls P prim draw fuel n)) fuel
        finish P run (run f args A),
     fun l args A => evalRound (evalCode P (calls P prim draw fuel n) (draw (calls P prim draw fuel n)) fuel) l args A⟩
end Go.Dp
namespace Go.Dp
def eqOpt (a b : Option Addr) : Bool := match a, b with
  | none, none => true
  | some x, some y => Nat.beq x.block y.block && Nat.beq x.off y.off && (match x.spot, y.spot with
    | none, none => true
    | some i, some j => Nat.beq i j
    | _, _ => false)
  | _, _ => false
def eqFn : Fn → Fn → Bool
  | .func a, .func b => Nat.beq a b
  | .yield a, .yield b => Nat.beq a b
  | _, _ => false
def eqVs (f : Value → Value → Bool) : List Value → List Value → Bool
  | [], [] => true
  | x :: xs, y :: ys => f x y && eqVs f xs ys
  | _, _ => false
def eqV : Nat → Value → Value → Bool
  | 0, _, _ => false
  | n + 1, a, b => match a, b with
    | .bool x, .bool y => x == y
    | .int j x, .int k y => decide (j = k) && decide (x = y)
    | .float j x, .float k y => decide (j = k) && Nat.beq x y
    | .complex j x u, .complex k y v => decide (j = k) && Nat.beq x y && Nat.beq u v
    | .string x, .string y => decide (x.data.toList = y.data.toList)
    | .pointer x, .pointer y => eqOpt x y
    | .slice x l c, .slice y m d => eqOpt x y && Nat.beq l m && Nat.beq c d
    | .map none, .map none => true
    | .map (some x), .map (some y) => Nat.beq x y
    | .nilFunc, .nilFunc => true
    | .nilIface, .nilIface => true
    | .func f x u, .func g y v => eqFn f g && eqVs (eqV n) x.toList y.toList && eqVs (eqV n) u.toList v.toList
    | .agg x, .agg y => eqVs (eqV n) x.toList y.toList
    | .tuple x, .tuple y => eqVs (eqV n) x.toList y.toList
    | _, _ => false
def scAddr (n : Nat) : Option Addr → Bool
  | none => true
  | some a => Nat.blt a.block n
def unders (f : Value → Bool) : List Value → Bool
  | [] => true
  | v :: vs => f v && unders f vs
def under : Nat → Nat → Value → Bool
  | 0, _, _ => false
  | d + 1, n, v => match v with
    | .pointer a => scAddr n a
    | .slice a _ _ => scAddr n a
    | .map none => true
    | .map (some b) => Nat.blt b n
    | .func (.func _) x u => unders (under d n) x.toList && unders (under d n) u.toList
    | .func (.yield b) _ _ => Nat.blt b n
    | .agg x => unders (under d n) x.toList
    | .tuple x => unders (under d n) x.toList
    | .bool _ | .int _ _ | .float _ _ | .complex _ _ _ | .string _ | .nilFunc | .nilIface => true
    | _ => false
inductive Cls where
  | pure | read | alloc | effect
  deriving DecidableEq
def plainConv (P : Program) (s d : TypeId) : Bool :=
  match P.underlying s, P.underlying d with
  | some (.slice _), _ => false
  | _, some (.slice _) => false
  | some _, some _ => true
  | _, _ => false
def cls (P : Program) : Op → Cls
  | .move _ | .assign _ | .pick _ _ _ | .build _ _ | .nilCheck _ | .binOp _ _ _ _ _ | .unOp _ _ _ | .fieldAddr _ _ _ | .field _ _ _ | .indexAddr _ _ _ | .index _ _ _
  | .makeFunc _ _ _ | .extract _ _ => .pure
  | .convert s d _ => if plainConv P s d then .pure else .effect
  | .load _ _ | .slice _ _ _ _ _ | .lookup _ _ _ _ | .entry _ => .read
  | .alloc _ | .box _ _ | .buildSlice _ _ _ | .makeSlice _ _ _ | .makeMap _ _ => .alloc
  | .call c => match c.callee with
    | .builtin b => match b with
      | .len | .cap => .read
      | .min | .max | .complex | .real | .imag => .pure
      | _ => .effect
    | _ => .effect
  | _ => .effect
def isEff (P : Program) (o : Oper) : Bool := match cls P o.op with
  | .effect => true
  | _ => false
def tmpsOf (o : Oper) : List Tmp := o.op.operands.toList.filterMap fun
  | .tmp t => some t
  | _ => none
structure PStep where
  i : Nat
  c : Cls
  lag : Nat
def bef (b : Array Nat) (i j : Nat) : Bool := (b.getD i 0).testBit j
def planGo (P : Program) (ops : Array Oper) (b : Array Nat) : List Nat → (done : Nat) → (neff : Nat) → List PStep
  | [], done, neff => rest done neff
  | k :: ks, done, neff =>
    let pre := (List.range ops.size).filter fun i => !(done.testBit i) && bef b k i
    pre.filterMap (stepOf neff) ++ { i := k, c := .effect, lag := 0 : PStep } ::
      planGo P ops b ks (pre.foldl (fun s i => s ||| 2 ^ i) (done ||| 2 ^ k)) (neff + 1)
 where
  stepOf (neff : Nat) (i : Nat) : Option PStep := (ops[i]?).map fun o =>
    { i, c := cls P o.op, lag := neff - ((List.range ops.size).filter fun j => bef b i j && ((ops[j]?).map (isEff P)).getD false).length }
  rest (done neff : Nat) : List PStep := ((List.range ops.size).filter fun i => !(done.testBit i)).filterMap (stepOf neff)
def looksAt (ops : Array Oper) (o : Oper) : List Tmp := tmpsOf o ++ match o.guard with
  | none => []
  | some (g, _) => match ops[g]? with
    | some q => match q.dst with
      | some d => [d]
      | none => []
    | none => []
def sets (o : Oper) (d : Tmp) : Bool := match o.dst with
  | some t => Nat.beq t d
  | none => false
def pairOk (ops : Array Oper) (b : Array Nat) (s' s : PStep) : Bool :=
  match ops[s'.i]?, ops[s.i]? with
  | some o', some o =>
    !(Nat.beq s'.i s.i) && !(bef b s'.i s.i) &&
    (match s.c with | .effect => bef b s.i s'.i | _ => true) &&
    (match o.dst with
      | none => true
      | some d => !(sets o' d) && (bef b s.i s'.i || !((looksAt ops o').any fun t => Nat.beq t d))) &&
    (match o'.dst with
      | none => true
      | some d => bef b s.i s'.i || !((looksAt ops o).any fun t => Nat.beq t d))
  | _, _ => false
def pairsOk (ops : Array Oper) (b : Array Nat) : List PStep → Bool
  | [] => true
  | s :: ss => ss.all (fun s' => pairOk ops b s s') && pairsOk ops b ss
def lagsOk (b : Array Nat) : List Nat → List PStep → Bool
  | _, [] => true
  | effs, s :: ss =>
    (match s.c with | .read => Nat.ble (effs.filter fun k => !(bef b s.i k)).length s.lag | _ => true) &&
    lagsOk b (match s.c with | .effect => s.i :: effs | _ => effs) ss
def opsUnder (fr : Fr) (o : Oper) (n : Nat) : Bool := o.op.operands.toList.all fun x => under 4 n (ev fr x)
def readAll (P : Program) (fr : Fr) (o : Oper) : List AS → Option Value
  | [] => none
  | A :: As => if opsUnder fr o A.next then match aExec P (ev fr) o A with
      | some (.value v, _) => match As with
        | [] => some v
        | _ => match readAll P fr o As with
          | some u => if eqV 4 v u then some u else none
          | none => none
      | _ => none
    else none
def drawStep (P : Program) (call : Calls2) (ops : Array Oper) (s : PStep) (fr : Fr) (A : AS) (hist : List AS) : Option (Fr × AS × List AS) :=
  match ops[s.i]? with
  | none => none
  | some o =>
    if Region.wanted o (yieldedA ops fr) then
      if opOk o then
        match s.c with
        | .pure => match aExec P (ev fr) o A with
          | some (.value v, _) => match fr.put o.dst v with
            | some fr' => some (fr', A, hist)
            | none => none
          | _ => none
        | .read => match readAll P fr o (hist.take (s.lag + 1)) with
          | some v => match fr.put o.dst v with
            | some fr' => some (fr', A, hist)
            | none => none
          | none => none
        | .alloc => if opsUnder fr o A.next then match aExec P (ev fr) o A with
            | some (.value v, A') => match fr.put o.dst v with
              | some fr' => some (fr', A', hist)
              | none => none
            | _ => none
          else none
        | .effect => if opsUnder fr o A.next then match evalOp P call ops o fr A with
            | some (fr', A') => if Nat.ble A.next A'.next then some (fr', A', A' :: hist) else none
            | none => none
          else none
      else none
    else match fr.put o.dst undef with
      | some fr' => match s.c with
        | .effect => some (fr', A, A :: hist)
        | _ => some (fr', A, hist)
      | none => none
def drawGo (P : Program) (call : Calls2) (ops : Array Oper) : List PStep → Fr → AS → List AS → Option (Fr × AS)
  | [], fr, A, _ => some (fr, A)
  | s :: ss, fr, A, hist => match drawStep P call ops s fr A hist with
    | some (fr', A', hist') => drawGo P call ops ss fr' A' hist'
    | none => none
def drawP (P : Program) (pl : Array Oper → Option (List PStep)) : DrawF := fun call ops fr A =>
  match pl ops with
  | some ss => drawGo P call ops ss fr A [A]
  | none => none
end Go.Dp
namespace Go.Dp
open Go
variable {P : Program} {e : Env} {A : AS} {w : World}
def OkV (P : Program) (e : Env) (A : AS) (w : World) (s : Sem Value) (v : Value) (A' : AS) : Prop :=
  ∃ e' w' v', s.run P w = .ok v' w' ∧ Inv e' A' w' ∧ Step e A w e' A' w' ∧ VR e' A'.next v v'
theorem OkV.same (hi : Inv e A w) {s : Sem Value} {v v' : Value} (h : s.run P w = .ok v' w) (hv : VR e A.next v v') : OkV P e A w s v A :=
  ⟨e, w, v', h, hi, Step.refl e A w, hv⟩
theorem run_under {t : TypeId} {d : TypeDesc} (h : P.underlying t = some d) (w : World) : (underlying t).run P w = .ok d w := by
  simp [underlying, h]
theorem run_info {t : TypeId} {i : TypeInfo} (h : P.info? t = some i) (w : World) : (typeInfo t).run P w = .ok i w := by
  simp [typeInfo, h]
theorem run_size {t : TypeId} {n : Nat} (h : tSize P t = some n) (w : World) : (sizeOf t).run P w = .ok n w := by
  unfold tSize at h
  split at h
  · rename_i i hi
    simp at h; subst h
    simp [sizeOf, run_info hi]
  · cases h
theorem run_agg {t : TypeId} {b : Bool} (h : tAgg P t = some b) (w : World) : (isAgg t).run P w = .ok b w := by
  unfold tAgg at h
  split at h
  · rename_i d hd
    simp at h; subst h
    simp only [isAgg, Sem.run_bind, run_under hd, Result.andThen_ok]
    cases d <;> rfl
  · cases h
theorem run_zero {t : TypeId} {z : Value} (h : tZero P t = some z) (w : World) : (zeroValue t).run P w = .ok z w := by
  unfold tZero at h
  split at h
  · rename_i i hi
    simp [zeroValue, run_info hi, h]
  · cases h
theorem piece_some {cs l : List Value} {o n : Nat} (h : piece cs o n = some l) : l = (cs.drop o).take n ∧ l.length = n := by
  unfold piece at h
  simp only at h
  split at h
  · rename_i hl
    simp at h hl
    subst h
    exact ⟨rfl, by simpa using hl⟩
  · cases h
theorem rows_of {B : Nat} {cs : List Value} {z : Nat} {x : Bool} (hi : Inv e A w) (hB : A.get B = some (.cells cs z x)) :
    ∃ ys, VRs e A.next cs ys ∧ ∀ j v, ys[j]? = some v → w.cell? ⟨e.loc B, e.off B + j, none⟩ = some v := by
  obtain ⟨ccs, T, fr, hb, hx, hs, hc, hf⟩ := hi.obj B _ hB
  refine ⟨(ccs.toList.drop (e.off B)).take cs.length, VRs.of_get ?_ fun i v hv => ?_, fun j v hv => ?_⟩
  · simp; omega
  · obtain ⟨v', hv', r⟩ := hc i v hv
    have hlt : i < cs.length := by
      rcases Nat.lt_or_ge i cs.length with h | h
      · exact h
      · simp [List.getElem?_eq_none h] at hv
    refine ⟨v', ?_, r⟩
    rw [List.getElem?_take, if_pos hlt, List.getElem?_drop]
    simpa using hv'
  · rw [List.getElem?_take] at hv
    split at hv
    · rw [List.getElem?_drop] at hv
      simp [World.cell?, hb]
      simpa using hv
    · cases hv
theorem add_none (b o n : Nat) : (⟨b, o, none⟩ : Addr).add n = ⟨b, o + n, none⟩ := by
  unfold Addr.add
  split
  · subst_vars; rfl
  · rfl
theorem piece_rel {cs ys l : List Value} {o n : Nat} (h : VRs e A.next cs ys) (hp : piece cs o n = some l) :
    VRs e A.next l ((ys.drop o).take n) ∧ ((ys.drop o).take n).length = n := by
  obtain ⟨rfl, hl⟩ := piece_some hp
  have := (h.drop o).take n
  exact ⟨this, this.length.trans hl⟩
theorem run_piece {B o n : Nat} {ys : List Value} (hc : ∀ j v, ys[j]? = some v → w.cell? ⟨e.loc B, e.off B + j, none⟩ = some v)
    (hl : ((ys.drop o).take n).length = n) :
    (loadCells ⟨e.loc B, e.off B + o, none⟩ n).run P w = .ok ⟨(ys.drop o).take n⟩ w := by
  have := run_loadCells_list (P := P) w ⟨e.loc B, e.off B + o, none⟩ ((ys.drop o).take n) (fun j v hv => by
    rw [add_none]
    rw [List.getElem?_take] at hv
    split at hv
    · rw [List.getElem?_drop] at hv
      have := hc (o + j) v hv
      rwa [← Nat.add_assoc] at this
    · cases hv)
  rw [hl] at this
  exact this
theorem load_sound (hi : Inv e A w) {t : TypeId} {a a' v : Value} (h : aLoad P A t a = some v) (ha : VR e A.next a a') :
    OkV P e A w (Instr.loadAt t a') v A := by
  unfold aLoad at h
  split at h
  · rename_i B o
    split at h
    · rename_i cs z x hB
      obtain ⟨ys, hys, hc⟩ := rows_of hi hB
      have ha' : a' = .pointer (some ⟨e.loc B, e.off B + o, none⟩) := by
        cases ha with
        | flat h => simp [Dp.flat, scalar] at h
        | ptr _ => rfl
      subst ha'
      split at h
      · rename_i hagg
        split at h
        · rename_i n hn
          cases hp : piece cs o n with
          | none => simp [hp] at h
          | some l =>
            simp [hp] at h; subst h
            obtain ⟨hr, hl⟩ := piece_rel hys hp
            refine OkV.same hi (v' := .agg ⟨(ys.drop o).take n⟩) ?_ (.agg hr)
            simp only [Instr.loadAt, Instr.sureAddr, Sem.run_bind, Sem.run_pure, Result.andThen_ok, loadVar, run_agg hagg, if_true, run_size hn,
              run_piece hc hl]
        · cases h
      · rename_i hagg
        obtain ⟨y, hy, r⟩ := hys.get h
        refine OkV.same hi (v' := y) ?_ r
        have := hc o y hy
        simp [Instr.loadAt, Instr.sureAddr, loadVar, run_agg hagg, this]
      · cases h
    · cases h
  · cases h
theorem load_same (hi : Inv e A w) {t : TypeId} {a a' v : Value} (h : aLoad P A t a = some v) (ha : VR e A.next a a') :
    ∃ v', (Instr.loadAt t a').run P w = .ok v' w ∧ VR e A.next v v' := by
  unfold aLoad at h
  split at h
  · rename_i B o
    split at h
    · rename_i cs z x hB
      obtain ⟨ys, hys, hc⟩ := rows_of hi hB
      have ha' : a' = .pointer (some ⟨e.loc B, e.off B + o, none⟩) := by
        cases ha with
        | flat h => simp [Dp.flat, scalar] at h
        | ptr _ => rfl
      subst ha'
      split at h
      · rename_i hagg
        split at h
        · rename_i n hn
          cases hp : piece cs o n with
          | none => simp [hp] at h
          | some l =>
            simp [hp] at h; subst h
            obtain ⟨hr, hl⟩ := piece_rel hys hp
            refine ⟨.agg ⟨(ys.drop o).take n⟩, ?_, .agg hr⟩
            simp only [Instr.loadAt, Instr.sureAddr, Sem.run_bind, Sem.run_pure, Result.andThen_ok, loadVar, run_agg hagg, if_true, run_size hn,
              run_piece hc hl]
        · cases h
      · rename_i hagg
        obtain ⟨y, hy, r⟩ := hys.get h
        refine ⟨y, ?_, r⟩
        have := hc o y hy
        simp [Instr.loadAt, Instr.sureAddr, loadVar, run_agg hagg, this]
      · cases h
    · cases h
  · cases h
theorem VR.one' {n : Nat} {v v' : Value} (h : VR e n v v') (hv : v.oneCell' = true) : v'.oneCell' = true := by
  cases h with
  | flat _ => exact hv
  | agg _ => simp [Value.oneCell'] at hv
  | tuple _ => simp [Value.oneCell'] at hv
  | _ => rfl
theorem VRs.one' {n : Nat} : ∀ {vs us : List Value}, VRs e n vs us → vs.all Value.oneCell' = true → ∀ u ∈ us, u.oneCell' = true
  | _, _, .nil, _, u, hu => by cases hu
  | _, _, .cons h t, hv, u, hu => by
    simp only [List.all_cons, Bool.and_eq_true] at hv
    cases hu with
    | head => exact h.one' hv.1
    | tail _ hm => exact t.one' hv.2 u hm
theorem storeAll_sound (hi : Inv e A w) {B o : Nat} {vs us : List Value} {A' : AS} (h : storeAll A B o vs = some A') (hv : VRs e A.next vs us) :
    ∃ w', (storeCells ⟨e.loc B, e.off B + o, none⟩ us).run P w = .ok () w' ∧ Inv e A' w' ∧ Step e A w e A' w' ∧ A'.next = A.next := by
  unfold storeAll at h
  split at h
  · rename_i cs z x hB
    split at h
    · rename_i hcond
      simp only [Bool.and_eq_true, Nat.ble_eq] at hcond
      obtain ⟨⟨hro, hlen⟩, hone⟩ := hcond
      simp at h; subst h
      obtain ⟨ccs, T, fr, hb, hx, hs, hc, hf⟩ := hi.obj B _ hB
      have hul := hv.length
      have hfr := hf hro
      have hcell : ∀ j, j < us.length → (w.cell? ⟨e.loc B, e.off B + o + 0 + j, none⟩).isSome = true := by
        intro j hj
        simp [World.cell?, hb]
        omega
      have hfz : ∀ j, j < us.length → w.frozen? ⟨e.loc B, e.off B + o + 0 + j, none⟩ = false := by
        intro j hj
        have := hfr (e.off B + o + j) (by omega) (by omega)
        obtain ⟨lo, hi'⟩ := fr
        simp [World.frozen?, hb]
        simp at this
        omega
      have hrun := run_storeCells_cells (P := P) (e.loc B) (e.off B + o) us 0 w hcell hfz (hv.one' hone)
      simp only [Nat.add_zero] at hrun
      obtain ⟨⟨ccs', hb', hsz', hg'⟩, r1, r2, r3, r4, r5⟩ := setCells_heap (e.loc B) us (e.off B + o) w ccs T fr hb (by omega)
      have hsp : (splice cs o vs).length = cs.length := splice_length (by omega)
      have := write_sound hi (o' := .cells (splice cs o vs) z x) hB hro r1 r2 r3 r4 r5 ?_
      · exact ⟨_, hrun, this.1, this.2, rfl⟩
      · refine ⟨ccs', T, fr, hb', hx, by rw [hsp, hsz']; exact hs, fun i v hv' => ?_, fun hr => by rw [hsp]; exact hf hr⟩
        rw [splice_get (by omega)] at hv'
        rw [hg' (e.off B + i)]
        by_cases h1 : i < o
        · rw [if_pos h1] at hv'
          have : ¬ (e.off B + o ≤ e.off B + i ∧ e.off B + i < e.off B + o + us.length) := by omega
          rw [if_neg this]
          exact hc i v hv'
        · rw [if_neg h1] at hv'
          by_cases h2 : i < o + vs.length
          · rw [if_pos h2] at hv'
            have : e.off B + o ≤ e.off B + i ∧ e.off B + i < e.off B + o + us.length := by omega
            rw [if_pos this]
            obtain ⟨y, hy, r⟩ := hv.get hv'
            exact ⟨y, by rw [show e.off B + i - (e.off B + o) = i - o by omega]; exact hy, r⟩
          · rw [if_neg h2] at hv'
            have : ¬ (e.off B + o ≤ e.off B + i ∧ e.off B + i < e.off B + o + us.length) := by omega
            rw [if_neg this]
            exact hc i v hv'
    · cases h
  · cases h
theorem store_sound (hi : Inv e A w) {t : TypeId} {a a' v v' : Value} {A' : AS} (h : aStore P A t a v = some A') (ha : VR e A.next a a') (hv : VR e A.next v v') :
    ∃ w', (Instr.storeAt t a' v').run P w = .ok () w' ∧ Inv e A' w' ∧ Step e A w e A' w' := by
  unfold aStore at h
  split at h
  · rename_i B o
    have ha' : a' = .pointer (some ⟨e.loc B, e.off B + o, none⟩) := by
      cases ha with
      | flat h => simp [Dp.flat, scalar] at h
      | ptr _ => rfl
    subst ha'
    split at h
    · rename_i n hn
      split at h
      · rename_i hsz
        have hsz' : v.cells.size = n := by simpa using hsz
        have hcells := hv.cells
        have hl : v'.cells.size = n := by
          have := hcells.length
          simpa [hsz'] using this
        obtain ⟨w', hrun, hi', hs, _⟩ := storeAll_sound (P := P) hi h hcells
        refine ⟨w', ?_, hi', hs⟩
        simp only [Instr.storeAt, Instr.sureAddr, Sem.run_bind, Sem.run_pure, Result.andThen_ok, storeVar, run_size hn]
        rw [if_neg (by simp [hl])]
        exact hrun
      · cases h
    · cases h
  · cases h
theorem alloc_sound (hi : Inv e A w) {t : TypeId} {z : Value} (hz : tZero P t = some z) (hf : ∀ n, VR e n z z) :
    OkV P e A w (Instr.alloc t true (.tuple #[])) (aNew A z.cells.toList 0).1 (aNew A z.cells.toList 0).2 := by
  obtain ⟨e', h1, h2, h3, h4, h5⟩ := new_cells hi (cs := z.cells.toList) (ccs := z.cells) t 0 (hf _).cells
  refine ⟨e', _, .pointer (some ⟨w.heap.size, 0, none⟩), ?_, h1, h2, ?_⟩
  · simp only [Instr.alloc, Sem.run_bind, run_zero hz, Result.andThen_ok, newVar, newRow, run_newObj, Sem.run_pure]
    rfl
  · have := VR.ptr (e := e') (n := A.next + 1) (B := A.next) (o := 0) (Nat.lt_succ_self _)
    rw [h3, h4] at this
    exact this
theorem box_sound (hi : Inv e A w) {t : TypeId} {v v' : Value} (hv : VR e A.next v v') :
    OkV P e A w (Instr.box t v') (aNew A v.cells.toList 0).1 (aNew A v.cells.toList 0).2 := by
  obtain ⟨e', h1, h2, h3, h4, h5⟩ := new_cells hi (cs := v.cells.toList) (ccs := v'.cells) t 0 hv.cells
  refine ⟨e', _, .pointer (some ⟨w.heap.size, 0, none⟩), ?_, h1, h2, ?_⟩
  · simp only [Instr.box, Sem.run_bind, newVar, newRow, run_newObj, Result.andThen_ok, Sem.run_pure]
    rfl
  · have := VR.ptr (e := e') (n := A.next + 1) (B := A.next) (o := 0) (Nat.lt_succ_self _)
    rw [h3, h4] at this
    exact this
theorem nilCheck_val {v u : Value} (h : aNilCheck v = some u) : u = v := by
  unfold aNilCheck at h
  split at h <;> simp_all
theorem fieldAddr_sound (hi : Inv e A w) {s : TypeId} {a a' v : Value} {k : Nat} (h : aFieldAddr P s a k = some v) (ha : VR e A.next a a') :
    OkV P e A w (Instr.fieldAt s a' k) v A := by
  unfold aFieldAddr at h
  split at h
  · rename_i fields B o hu
    have ha' : a' = .pointer (some ⟨e.loc B, e.off B + o, none⟩) ∧ B < A.next := by
      cases ha with
      | flat h => simp [Dp.flat, scalar] at h
      | ptr h => exact ⟨rfl, h⟩
    obtain ⟨rfl, hB⟩ := ha'
    split at h
    · rename_i f hf
      split at h
      · rename_i n hn
        split at h
        · cases h
        · rename_i hn0
          simp at h hn0
          subst h
          refine OkV.same hi (v' := .pointer (some ⟨e.loc B, e.off B + (o + f.offset), none⟩)) ?_ (.ptr hB)
          simp [Instr.fieldAt, run_under hu, hf, Instr.sureAddr, fieldPlace, run_size hn, hn0, add_none, Nat.add_assoc]
      · cases h
    · cases h
  · cases h
theorem toNat_of_nonneg {n : Int} (h : 0 ≤ n) : ((n.toNat : Nat) : Int) = n := by omega
theorem indexAddr_sound (hi : Inv e A w) {t : TypeId} {x x' i i' v : Value} (h : aIndexAddr P t x i = some v) (hx : VR e A.next x x') (hii : VR e A.next i i') :
    OkV P e A w (Instr.indexAt t x' i') v A := by
  unfold aIndexAddr at h
  split at h
  · rename_i k n
    have hi' : i' = .int k n := VR.of_flat (by simp [Dp.flat, scalar]) hii
    subst hi'
    split at h
    · rename_i el B o len c hu
      have hx' : ∃ c', x' = .slice (some ⟨e.loc B, e.off B + o, none⟩) len c' ∧ B < A.next := by
        cases hx with
        | flat h => simp [Dp.flat, scalar] at h
        | slice h => exact ⟨_, rfl, h⟩
      obtain ⟨c', rfl, hB⟩ := hx'
      split at h
      · rename_i z hz
        split at h
        · rename_i hb
          simp at hb h
          subst h
          refine OkV.same hi (v' := .pointer (some ⟨e.loc B, e.off B + (o + n.toNat * z), none⟩)) ?_ (.ptr hB)
          simp [Instr.indexAt, asIntOf, run_under hu, hb, run_size hz, add_none, Nat.add_assoc]
        · cases h
      · cases h
    · rename_i len el B o hu
      have hx' : x' = .pointer (some ⟨e.loc B, e.off B + o, none⟩) ∧ B < A.next := by
        cases hx with
        | flat h => simp [Dp.flat, scalar] at h
        | ptr h => exact ⟨rfl, h⟩
      obtain ⟨rfl, hB⟩ := hx'
      split at h
      · rename_i z hz
        split at h
        · rename_i hb
          simp at hb h
          subst h
          refine OkV.same hi (v' := .pointer (some ⟨e.loc B, e.off B + (o + n.toNat * z), none⟩)) ?_ (.ptr hB)
          simp [Instr.indexAt, asIntOf, run_under hu, hb, run_size hz, add_none, Nat.add_assoc, Instr.sureAddr]
        · cases h
      · cases h
    · cases h
  · cases h
end Go.Dp
namespace Go.Dp
open Go
variable {P : Program} {e : Env} {A : AS} {w : World}
theorem VRs.set {n : Nat} : ∀ {xs ys : List Value} (i : Nat) {x y : Value}, VRs e n xs ys → VR e n x y → VRs e n (xs.set i x) (ys.set i y)
  | _, _, _, _, _, .nil, _ => .nil
  | _, _, 0, _, _, .cons _ t, h => .cons h t
  | _, _, i + 1, _, _, .cons a t, h => .cons a (t.set i h)
theorem foldl_rel {n : Nat} (off : Nat) : ∀ {vs us : List Value} (k : Nat) (cs ds : Array Value), VRs e n vs us → VRs e n cs.toList ds.toList →
    VRs e n ((vs.zipIdx k).foldl (fun cs (c, j) => cs.setIfInBounds (off + j) c) cs).toList
      ((us.zipIdx k).foldl (fun cs (c, j) => cs.setIfInBounds (off + j) c) ds).toList
  | _, _, _, _, _, .nil, h => h
  | _, _, k, cs, ds, .cons a t, h => by
    simp only [List.zipIdx_cons, List.foldl_cons]
    refine foldl_rel off (k + 1) _ _ t ?_
    simp only [Array.toList_setIfInBounds]
    exact h.set _ a
theorem fill_rel {n : Nat} (pl : Nat → Option (Nat × Nat)) : ∀ (ps qs : List (Nat × Value)) (cs ds : Array Value) (r : Array Value),
    ps.map (·.1) = qs.map (·.1) → VRs e n (ps.map (·.2)) (qs.map (·.2)) → VRs e n cs.toList ds.toList → Instr.fill pl cs ps = some r →
    ∃ r', Instr.fill pl ds qs = some r' ∧ VRs e n r.toList r'.toList
  | [], [], cs, ds, r, _, _, h, hf => by simp only [Instr.fill, Option.some.injEq] at hf; subst hf; exact ⟨ds, rfl, h⟩
  | [], _ :: _, _, _, _, h, _, _, _ => by simp at h
  | _ :: _, [], _, _, _, h, _, _, _ => by simp at h
  | (i, v) :: ps, (j, u) :: qs, cs, ds, r, h1, h2, h, hf => by
    simp only [List.map_cons, List.cons.injEq] at h1 h2
    obtain ⟨rfl, h1⟩ := h1
    cases h2 with
    | cons a t =>
    simp only [Instr.fill] at hf ⊢
    cases hp : pl i with
    | none => simp [hp] at hf
    | some os =>
      obtain ⟨off, size⟩ := os
      simp only [hp] at hf ⊢
      have hc := a.cells
      have hl : u.cells.size = v.cells.size := by have := hc.length; simpa using this
      have hd : ds.size = cs.size := by have := h.length; simpa using this
      split at hf
      · cases hf
      · rename_i hcond
        rw [hl, hd, if_neg hcond]
        refine fill_rel pl ps qs _ _ r h1 t ?_ hf
        rw [← Array.foldl_toList, ← Array.foldl_toList, Array.toList_zipIdx, Array.toList_zipIdx]
        exact foldl_rel (e := e) (n := n) off 0 cs ds hc h
theorem parts_fst (f g : Operand → Value) (parts : Array (Nat × Operand)) :
    (parts.toList.map fun (i, x) => (i, f x)).map (·.1) = (parts.toList.map fun (i, x) => (i, g x)).map (·.1) := by
  simp only [List.map_map]; rfl
theorem parts_rel {n : Nat} (f g : Operand → Value) (h : ∀ x, VR e n (f x) (g x)) : ∀ (parts : List (Nat × Operand)),
    VRs e n ((parts.map fun (i, x) => (i, f x)).map (·.2)) ((parts.map fun (i, x) => (i, g x)).map (·.2))
  | [] => .nil
  | (_, x) :: r => .cons (h x) (parts_rel f g h r)
theorem mapM_places (fields : List Field) (h : fields.all (fun f => (P.info? f.type).isSome) = true) (w : World) :
    (fields.mapM fun f => do pure (f.offset, ← sizeOf f.type) : Sem (List (Nat × Nat))).run P w =
      .ok (fields.map fun f => (f.offset, ((P.info? f.type).map (·.size)).getD 0)) w := by
  induction fields with
  | nil => rfl
  | cons f fs ih =>
    simp only [List.all_cons, Bool.and_eq_true] at h
    obtain ⟨i, hi⟩ := Option.isSome_iff_exists.1 h.1
    have hs : (sizeOf f.type).run P w = .ok i.size w := run_size (P := P) (by simp [tSize, hi]) w
    simp only [List.mapM_cons, Sem.run_bind, hs, Result.andThen_ok, Sem.run_pure, ih h.2, List.map_cons, hi]
    rfl
theorem build_sound (hi : Inv e A w) {t : TypeId} {parts : Array (Nat × Operand)} {f g : Operand → Value} {v z : Value}
    (hz : tZero P t = some z) (h : aBuild P t (parts.toList.map fun (i, x) => (i, f x)) = some v) (hr : ∀ x, VR e A.next (f x) (g x)) :
    OkV P e A w (Instr.build t (parts.map fun (i, x) => (i, g x))) v A := by
  have hfst := parts_fst f g parts
  have hsnd := parts_rel f g hr parts.toList
  unfold aBuild at h
  rw [hz] at h
  simp only at h
  cases hp : aPlaces P t with
  | none => simp [hp] at h
  | some pl =>
    simp only [hp] at h
    split at h
    case isFalse => cases h
    rename_i hzf0
    have hzf : VR e A.next z z := .flat hzf0
    cases hfl : Instr.fill pl z.cells (parts.toList.map fun (i, x) => (i, f x)) with
    | none => simp [hfl] at h
    | some r =>
      simp [hfl] at h; subst h
      obtain ⟨r', hr', hrel⟩ := fill_rel (e := e) (n := A.next) pl _ _ _ _ r hfst hsnd hzf.cells hfl
      refine OkV.same hi (v' := .agg r') ?_ (.agg hrel)
      have hto : (parts.map fun (i, x) => (i, g x)).toList = parts.toList.map fun (i, x) => (i, g x) := by simp
      unfold aPlaces at hp
      split at hp
      · rename_i fields hu
        split at hp
        · rename_i hall
          simp at hp; subst hp
          simp only [Instr.build, Sem.run_bind, run_zero hz, Result.andThen_ok, run_under hu]
          rw [show (fields.mapM fun f => do pure (f.offset, ← sizeOf f.type) : Sem (Array (Nat × Nat))) = List.toArray <$> (fields.toList.mapM fun f => do pure (f.offset, ← sizeOf f.type)) from (Array.mapM_eq_mapM_toList)]
          simp only [Sem.run_map, mapM_places fields.toList (by simpa using hall) w, Result.andThen_ok, hto]
          have hpl : (fun (i : Nat) => (List.map (fun (f : Field) => (f.offset, ((P.info? f.type).map (·.size)).getD 0)) fields.toList).toArray[i]?) =
              fun (i : Nat) => (fields[i]?).map fun (f : Field) => (f.offset, ((P.info? f.type).map (·.size)).getD 0) := by
            funext i; simp
          rw [hpl, hr']
          rfl
        · cases hp
      · rename_i len el hu
        split at hp
        · rename_i n hn
          simp at hp; subst hp
          simp only [Instr.build, Sem.run_bind, run_zero hz, Result.andThen_ok, run_under hu, run_size hn, hto, hr']
          rfl
        · cases hp
      · cases hp
theorem pattern_rel {n : Nat} (z : Array Value) (hz : ∀ i : Nat, VR e n (z[i]!) (z[i]!)) (k : Nat) : VRs e n (pattern z k) (pattern z k) := by
  unfold pattern
  generalize List.range k = l
  induction l with
  | nil => exact .nil
  | cons x xs ih => exact .cons (hz _) ih
theorem flat_cells {n : Nat} {z : Value} (h : flat z = true) (k : Nat) : VR e n (z.cells[k]!) (z.cells[k]!) := by
  have hc := (VR.flat (e := e) (n := n) h).cells
  rw [getElem!_def]
  cases hk : z.cells[k]? with
  | none => exact .flat rfl
  | some v =>
    obtain ⟨y, hy, r⟩ := hc.get (i := k) (x := v) (by simpa using hk)
    have : y = v := by
      have h' : z.cells[k]? = some y := by simpa using hy
      rw [hk] at h'; simpa using h'.symm
    rw [this] at r
    exact r
theorem buildSlice_sound (hi : Inv e A w) {t : TypeId} {len : Nat} {parts : Array (Nat × Operand)} {f g : Operand → Value} {v : Value} {A' : AS}
    (h : aBuildSlice P A t len (parts.toList.map fun (i, x) => (i, f x)) = some (v, A')) (hr : ∀ x, VR e A.next (f x) (g x)) :
    OkV P e A w (Instr.buildSlice t len (parts.map fun (i, x) => (i, g x))) v A' := by
  have hfst := parts_fst f g parts
  have hsnd := parts_rel f g hr parts.toList
  unfold aBuildSlice at h
  split at h
  · rename_i el hu
    split at h
    · rename_i i hinfo
      split at h
      · rename_i z hzero
        split at h
        · rename_i hsz
          simp only [Bool.and_eq_true, Nat.ble_eq] at hsz
          have hzf := hsz.1
          replace hsz := hsz.2
          split at h
          · rename_i cells hfl
            simp at h
            obtain ⟨rfl, rfl⟩ := h
            have hto : (parts.map fun (i, x) => (i, g x)).toList = parts.toList.map fun (i, x) => (i, g x) := by simp
            have hpat := pattern_rel (e := e) (n := A.next) z.cells (flat_cells hzf) (len * i.size)
            obtain ⟨r', hr', hrel⟩ := fill_rel (e := e) (n := A.next) _ _ _ _ ⟨pattern z.cells (len * i.size)⟩ cells hfst hsnd hpat hfl
            obtain ⟨e', h1, h2, h3, h4, h5⟩ := new_cells hi (cs := cells.toList) (ccs := r') el i.size hrel
            refine ⟨e', _, .slice (some ⟨w.heap.size, 0, none⟩) len len, ?_, h1, h2, ?_⟩
            · have hs : tSize P el = some i.size := by simp [tSize, hinfo]
              have hzr : tZero P el = some z := by simp [tZero, hinfo, hzero]
              have hpa : ((Array.range (len * i.size)).map (z.cells[· % z.cells.size]!)) = ⟨pattern z.cells (len * i.size)⟩ := by
                apply Array.ext'
                simp [pattern]
              have hnot : ¬ len * i.size > 2 ^ 24 := by omega
              simp only [Instr.buildSlice, Sem.run_bind, run_under hu, Result.andThen_ok, run_size hs, hto]
              rw [if_neg hnot]
              by_cases h0 : len * i.size = 0
              · have hpa0 : ((Array.range (len * i.size)).map ((#[] : Array Value)[· % (#[] : Array Value).size]!)) = ⟨pattern z.cells (len * i.size)⟩ := by
                  rw [h0]; simp [pattern]
                rw [if_pos h0]
                simp only [Sem.run_bind, Sem.run_pure, Result.andThen_ok]
                rw [hpa0, hr']
                simp only [Sem.run_bind, newRow, run_newObj, Result.andThen_ok, Sem.run_pure]
                rfl
              · rw [if_neg h0]
                simp only [Sem.run_bind, run_zero hzr, Sem.run_pure, Result.andThen_ok]
                rw [hpa, hr']
                simp only [Sem.run_bind, newRow, run_newObj, Result.andThen_ok, Sem.run_pure]
                rfl
            · have := VR.slice (e := e') (n := A.next + 1) (B := A.next) (o := 0) (len := len) (c := len) (Nat.lt_succ_self _)
              rw [h3, h4, h5] at this
              exact this
          · cases h
        · cases h
      · cases h
    · cases h
  · cases h
end Go.Dp
namespace Go.Dp
open Go
variable {P : Program} {e : Env} {A : AS} {w : World}
theorem part_sound {t : TypeId} {cs ds : List Value} {off : Nat} {v : Value} {n : Nat} (h : aPart P t ⟨cs⟩ off = some v) (hr : VRs e n cs ds) :
    ∃ v', (part t ⟨ds⟩ off).run P w = .ok v' w ∧ VR e n v v' := by
  unfold aPart at h
  split at h
  · rename_i hagg
    split at h
    · rename_i k hk
      simp at h; subst h
      refine ⟨.agg ((⟨ds⟩ : Array Value).extract off (off + k)), ?_, ?_⟩
      · simp [part, run_agg hagg, run_size hk]
      · have e1 : ∀ l : List Value, (⟨l⟩ : Array Value).extract off (off + k) = ⟨(l.drop off).take k⟩ := by
          intro l
          apply Array.ext'
          simp [List.extract_eq_take_drop]
        have := (hr.drop off).take k
        simp only [List.extract_toArray, List.extract_eq_take_drop, Nat.add_sub_cancel_left]
        exact .agg this
    · cases h
  · rename_i hagg
    have h' : cs[off]? = some v := by simpa using h
    obtain ⟨y, hy, r⟩ := hr.get h'
    exact ⟨y, by simp [part, run_agg hagg, hy], r⟩
  · cases h
theorem agg_of {n : Nat} {cs : Array Value} {x' : Value} (h : VR e n (.agg cs) x') : ∃ ds, x' = .agg ⟨ds⟩ ∧ VRs e n cs.toList ds := by
  have hc := h.cells
  cases h with
  | flat _ => exact ⟨cs.toList, rfl, hc⟩
  | agg h => exact ⟨_, rfl, h⟩
theorem tuple_of {n : Nat} {cs : Array Value} {x' : Value} (h : VR e n (.tuple cs) x') : ∃ ds, x' = .tuple ⟨ds⟩ ∧ VRs e n cs.toList ds := by
  cases h with
  | flat h =>
    refine ⟨cs.toList, rfl, VRs.all_flat ?_⟩
    simp only [Dp.flat, List.all_eq_true] at h ⊢
    intro x hx
    have := h x hx
    split at this
    · exact by simpa [Dp.flat] using this
    · exact scalar_flat this
  | tuple h => exact ⟨_, rfl, h⟩
theorem field_sound (hi : Inv e A w) {t : TypeId} {x x' v : Value} {k : Nat} (h : aField P t x k = some v) (hx : VR e A.next x x') :
    OkV P e A w (Instr.field t x' k) v A := by
  unfold aField at h
  split at h
  · rename_i fields cs hu
    obtain ⟨ds, rfl, hr⟩ := agg_of hx
    split at h
    · rename_i f hf
      obtain ⟨v', h1, h2⟩ := part_sound (P := P) (w := w) (cs := cs.toList) h hr
      refine OkV.same hi ?_ h2
      simp only [Instr.field, Sem.run_bind, run_under hu, Result.andThen_ok, hf, asAgg, Sem.run_pure]
      exact h1
    · cases h
  · cases h
theorem index_sound (hi : Inv e A w) {t : TypeId} {x x' i i' v : Value} (h : aIndex P t x i = some v) (hx : VR e A.next x x') (hii : VR e A.next i i') :
    OkV P e A w (Instr.index t x' i') v A := by
  unfold aIndex at h
  split at h
  · rename_i k n
    have hi' : i' = .int k n := VR.of_flat (by simp [Dp.flat, scalar]) hii
    subst hi'
    split at h
    · rename_i len el cs hu
      obtain ⟨ds, rfl, hr⟩ := agg_of hx
      split at h
      · rename_i z hz
        split at h
        · rename_i hb
          simp at hb
          obtain ⟨v', h1, h2⟩ := part_sound (P := P) (w := w) (cs := cs.toList) h hr
          refine OkV.same hi ?_ h2
          simp only [Instr.index, Sem.run_bind, asIntOf, run_under hu, Result.andThen_ok, Sem.run_pure]
          rw [if_pos hb]
          simp only [Sem.run_bind, run_size hz, Result.andThen_ok]
          exact h1
        · cases h
      · cases h
    · cases h
  · cases h
theorem extract_sound (hi : Inv e A w) {x x' v : Value} {k : Nat} (h : aExtract x k = some v) (hx : VR e A.next x x') :
    OkV P e A w (Instr.extract x' k) v A := by
  unfold aExtract at h
  split at h
  · rename_i vs
    obtain ⟨ds, rfl, hr⟩ := tuple_of hx
    have h' : vs.toList[k]? = some v := by simpa using h
    obtain ⟨y, hy, r⟩ := hr.get h'
    refine OkV.same hi (v' := y) ?_ r
    simp [Instr.extract, hy]
  · cases h
theorem bool_of {n : Nat} {b : Bool} {x' : Value} (h : VR e n (.bool b) x') : x' = .bool b := VR.of_flat (by simp [Dp.flat, scalar]) h
theorem int_of {n : Nat} {k : IntKind} {i : Int} {x' : Value} (h : VR e n (.int k i) x') : x' = .int k i := VR.of_flat (by simp [Dp.flat, scalar]) h
theorem string_of {n : Nat} {s : ByteArray} {x' : Value} (h : VR e n (.string s) x') : x' = .string s := VR.of_flat (by simp [Dp.flat, scalar]) h
theorem bound_sound {v v' : Option Value} {dflt top top' r : Nat} {code : BoundsCode} (h : aBound v dflt top = some r) (hv : v.isSome = true)
    (ht : top ≤ top') (hr : ∀ x, v = some x → ∃ x', v' = some x' ∧ VR e A.next x x') : ∃ x', v' = some x' ∧ (Instr.sliceBound x' top' code).run P w = .ok r w := by
  cases v with
  | none => cases hv
  | some x =>
    obtain ⟨x', rfl, hx⟩ := hr x rfl
    refine ⟨x', rfl, ?_⟩
    unfold aBound at h
    split at h
    · rename_i hh; cases hh
    · rename_i k n hh
      simp at hh; subst hh
      rw [int_of hx]
      split at h
      · rename_i hc
        simp at hc h
        subst h
        simp only [Instr.sliceBound, asIntOf, Sem.run_bind, Sem.run_pure, Result.andThen_ok]
        rw [if_pos ⟨hc.1, by omega⟩]
        rfl
      · cases h
    · cases h
theorem bound_le {v : Option Value} {dflt top r : Nat} (h : aBound v dflt top = some r) (hd : dflt ≤ top) : r ≤ top := by
  unfold aBound at h
  split at h
  · simp at h; omega
  · split at h
    · rename_i hc
      simp at hc h
      omega
    · cases h
  · cases h
def OVR (e : Env) (n : Nat) (a b : Option Value) : Prop := (a = none ∧ b = none) ∨ ∃ x y, a = some x ∧ b = some y ∧ VR e n x y
theorem bounds_sound {isS : Bool} {len cap len' cap' h l : Nat} {hi hi' lo lo' : Option Value} (h1 : aBound hi len cap = some h) (h2 : aBound lo 0 h = some l)
    (hl : len' = len) (hc : cap ≤ cap') (hhi : OVR e A.next hi hi') (hlo : OVR e A.next lo lo') :
    (Instr.sliceBounds isS len' cap' lo' hi' none).run P w = .ok (l, h, cap') w := by
  subst hl
  have e1 : ∀ {y : Value}, OVR e A.next hi (some y) → (Instr.sliceBound y cap' (if isS = true then .sliceAcap else .sliceAlen)).run P w = .ok h w := by
    intro y hy
    rcases hy with ⟨_, h⟩ | ⟨x, y', rfl, h, r⟩
    · cases h
    · simp at h; subst h
      obtain ⟨y', hy, hrun⟩ := bound_sound (P := P) (w := w) (e := e) (A := A) (v' := some y) (code := if isS = true then .sliceAcap else .sliceAlen) h1 rfl hc (fun z hz => by simp at hz; subst hz; exact ⟨y, rfl, r⟩)
      simp at hy; subst hy
      exact hrun
  have e2 : ∀ {y : Value}, OVR e A.next lo (some y) → (Instr.sliceBound y h .sliceB).run P w = .ok l w := by
    intro y hy
    rcases hy with ⟨_, h⟩ | ⟨x, y', rfl, h, r⟩
    · cases h
    · simp at h; subst h
      obtain ⟨y', hy, hrun⟩ := bound_sound (P := P) (w := w) (e := e) (A := A) (v' := some y) (code := .sliceB) h2 rfl (Nat.le_refl h) (fun z hz => by simp at hz; subst hz; exact ⟨y, rfl, r⟩)
      simp at hy; subst hy
      exact hrun
  have n1 : hi' = none → h = len' := by
    rintro rfl
    rcases hhi with ⟨rfl, _⟩ | ⟨_, _, _, h, _⟩
    · simpa [aBound] using h1.symm
    · cases h
  have n2 : lo' = none → l = 0 := by
    rintro rfl
    rcases hlo with ⟨rfl, _⟩ | ⟨_, _, _, h, _⟩
    · simpa [aBound] using h2.symm
    · cases h
  cases hi' with
  | none =>
    have := n1 rfl; subst this
    cases lo' with
    | none => have := n2 rfl; subst this; rfl
    | some y =>
      simp only [Instr.sliceBounds, Sem.run_bind, Sem.run_pure, Result.andThen_ok, Option.isSome_none, Bool.false_eq_true, if_false, e2 hlo]
  | some x =>
    cases lo' with
    | none =>
      have := n2 rfl; subst this
      simp only [Instr.sliceBounds, Sem.run_bind, Sem.run_pure, Result.andThen_ok, e1 hhi]
    | some y =>
      simp only [Instr.sliceBounds, Sem.run_bind, Sem.run_pure, Result.andThen_ok, Option.isSome_none, Bool.false_eq_true, if_false, e1 hhi, e2 hlo]
theorem OVR.map {n : Nat} {f g : Operand → Value} (h : ∀ x, VR e n (f x) (g x)) (o : Option Operand) : OVR e n (o.map f) (o.map g) := by
  cases o with
  | none => exact .inl ⟨rfl, rfl⟩
  | some x => exact .inr ⟨f x, g x, rfl, rfl, h x⟩
theorem slice_of {n B o len c : Nat} {x' : Value} (h : VR e n (.slice (some ⟨B, o, none⟩) len c) x') :
    B < n ∧ x' = .slice (some ⟨e.loc B, e.off B + o, none⟩) len (c + e.ext B) := by
  cases h with
  | flat h => simp [Dp.flat, scalar] at h
  | slice h => exact ⟨h, rfl⟩
theorem ptr_of {n B o : Nat} {x' : Value} (h : VR e n (.pointer (some ⟨B, o, none⟩)) x') :
    B < n ∧ x' = .pointer (some ⟨e.loc B, e.off B + o, none⟩) := by
  cases h with
  | flat h => simp [Dp.flat, scalar] at h
  | ptr h => exact ⟨h, rfl⟩
theorem sliceAt_slice {t el : TypeId} {x : Value} {lo hi mx : Option Value} (hu : P.underlying t = some (.slice el)) :
    (Instr.sliceAt t x lo hi mx).run P w = (Instr.slice t x lo hi mx).run P w := by
  simp only [Instr.sliceAt, Sem.run_bind, run_under hu, Result.andThen_ok]
theorem slice_sound (hi : Inv e A w) {t : TypeId} {x x' v : Value} {lo hii mx lo' hii' mx' : Option Value} (h : aSlice P A t x lo hii mx = some v)
    (hx : VR e A.next x x') (hlo : OVR e A.next lo lo') (hhi : OVR e A.next hii hii') (hmx : OVR e A.next mx mx') :
    OkV P e A w (Instr.sliceAt t x' lo' hii' mx') v A := by
  unfold aSlice at h
  split at h
  · rename_i el B o sp len c hu
    split at h
    · rename_i z hz
      have hrun := fun xx => sliceAt_slice (P := P) (w := w) (t := t) (el := el) (x := xx) (lo := lo') (hi := hii') (mx := mx') hu
      split at h
      · rename_i m
        split at h
        · rename_i k2 k1
          simp at h; subst h
          obtain ⟨hB, rfl⟩ := slice_of hx
          have e1 : lo' = none := by rcases hlo with ⟨_, h⟩ | ⟨_, _, h, _⟩; exact h; cases h
          have e2 : hii' = some (.int k2 0) := by
            rcases hhi with ⟨h, _⟩ | ⟨a, b, h1, h2, r⟩
            · cases h
            · simp at h1; subst h1; rw [h2, int_of r]
          have e3 : mx' = some (.int k1 0) := by
            rcases hmx with ⟨h, _⟩ | ⟨a, b, h1, h2, r⟩
            · cases h
            · simp at h1; subst h1; rw [h2, int_of r]
          subst e1 e2 e3
          refine OkV.same hi (v' := .slice (some ⟨e.loc B, e.off B + o, none⟩) 0 0) ?_ (.void hB)
          rw [hrun]
          simp [Instr.slice, run_under hu, Instr.sliceBounds, Instr.sliceBound, asIntOf, run_size hz]
        · cases h
      · have e3 : mx' = none := by rcases hmx with ⟨_, h⟩ | ⟨_, _, h, _⟩; exact h; cases h
        subst e3
        split at h
        · rename_i hh hbh
          split at h
          · rename_i l hbl
            split at h
            · obtain ⟨hB, rfl⟩ := slice_of hx
              have hb := bounds_sound (P := P) (w := w) (e := e) (A := A) (isS := true) (len' := len) (cap' := c + e.ext B) hbh hbl rfl (by omega) hhi hlo
              have hlh : l ≤ hh := bound_le hbl (Nat.zero_le _)
              split at h
              · rename_i hc
                simp only [Option.some.injEq] at h; subst h
                simp only [Bool.or_eq_true, Nat.blt_eq, Nat.beq_eq] at hc
                refine OkV.same hi (v' := .slice (some ⟨e.loc B, e.off B + (o + l * z), none⟩) (hh - l) (c - l + e.ext B)) ?_ (.slice hB)
                rw [hrun]
                simp only [Instr.slice, Sem.run_bind, run_under hu, Result.andThen_ok, hb, run_size hz, Sem.run_pure]
                have hh' : l ≤ c := by omega
                have e4 : c + e.ext B - l = c - l + e.ext B := by omega
                rw [e4]
                by_cases hm : c + e.ext B = l
                · have : l = 0 := by omega
                  subst this
                  rw [if_pos hm]
                  simp
                · rw [if_neg hm]
                  simp [add_none, Nat.add_assoc]
              · rename_i hnc
                simp only [Bool.or_eq_true, Nat.blt_eq, Nat.beq_eq, not_or] at hnc
                split at h
                · rename_i hc
                  simp only [Bool.and_eq_true, Nat.beq_eq] at hc
                  obtain ⟨rfl, rfl⟩ := hc
                  have hexact : ∀ {cs zz ex}, A.get B = some (.cells cs zz ex) → ex = false → e.ext B = 0 := by
                    intro cs zz ex hB' hx'
                    obtain ⟨_, _, _, _, hx2, _⟩ := hi.obj B _ hB'
                    exact hx2 hx'
                  have hrun2 : ∀ ad, ad = (if e.ext B = 0 then (⟨e.loc B, e.off B + o, none⟩ : Addr) else ⟨e.loc B, e.off B + o + hh * z, none⟩) →
                      (Instr.sliceAt t (.slice (some ⟨e.loc B, e.off B + o, none⟩) len (hh + e.ext B)) lo' hii' none).run P w = .ok (.slice (some ad) 0 (e.ext B)) w := by
                    intro ad had
                    rw [hrun]
                    simp only [Instr.slice, Sem.run_bind, run_under hu, Result.andThen_ok, hb, run_size hz, Sem.run_pure]
                    subst had
                    by_cases h0 : e.ext B = 0
                    · simp [h0]
                    · have : ¬ hh + e.ext B = hh := by omega
                      simp [h0, add_none]
                  split at h
                  · rename_i cs zz hB'
                    have hx0 := hexact hB' rfl
                    simp only [Option.some.injEq] at h; subst h
                    have hr2 := hrun2 _ rfl
                    rw [if_pos hx0] at hr2
                    refine OkV.same hi hr2 ?_
                    have := VR.slice (e := e) (n := A.next) (B := B) (o := o) (len := 0) (c := 0) hB
                    simpa using this
                  · rename_i cs zz hB'
                    split at h
                    · rename_i k hk
                      simp only [Option.some.injEq] at h; subst h
                      have hr2 := hrun2 _ rfl
                      by_cases h0 : e.ext B = 0
                      · rw [if_pos h0, h0] at hr2
                        exact OkV.same hi (by rw [h0]; exact hr2) (.pend hB h0)
                      · rw [if_neg h0] at hr2
                        exact OkV.same hi (v' := .slice (some ⟨e.loc B, e.off B + o + (k + 1), none⟩) 0 (e.ext B)) (by rw [hr2]; simp [hk]) (.pended hB h0)
                    · cases h
                  · cases h
                · cases h
            · split at h
              · rename_i hc
                simp only [Bool.and_eq_true, Nat.beq_eq] at hc
                obtain ⟨⟨⟨rfl, rfl⟩, rfl⟩, rfl⟩ := hc
                simp only [Option.some.injEq] at h; subst h
                refine OkV.same hi (v' := x') ?_ hx
                rw [hrun]
                have hsh : ∃ ad cap, x' = .slice (some ad) 0 cap := by
                  cases hx with
                  | flat h => simp [Dp.flat, scalar] at h
                  | void _ => exact ⟨_, _, rfl⟩
                  | pend _ _ => exact ⟨_, _, rfl⟩
                  | pended _ _ => exact ⟨_, _, rfl⟩
                obtain ⟨ad, cap, rfl⟩ := hsh
                have hb := bounds_sound (P := P) (w := w) (e := e) (A := A) (isS := true) (len' := 0) (cap' := cap) hbh hbl rfl (by omega) hhi hlo
                simp only [Instr.slice, Sem.run_bind, run_under hu, Result.andThen_ok, hb, run_size hz, Sem.run_pure]
                simp [Addr.add]
              · cases h
          · cases h
        · cases h
    · cases h
  · rename_i n el B o hu
    obtain ⟨hB, rfl⟩ := ptr_of hx
    split at h
    · rename_i z hz
      split at h
      · rename_i cs zz hB'
        have e3 : mx' = none := by rcases hmx with ⟨_, h⟩ | ⟨_, _, h, _⟩; exact h; cases h
        subst e3
        have hx0 : e.ext B = 0 := by
          obtain ⟨_, _, _, _, hx2, _⟩ := hi.obj B _ hB'
          exact hx2 rfl
        split at h
        · rename_i hh hbh
          split at h
          · rename_i l hbl
            split at h
            · rename_i hc
              simp only [Nat.blt_eq] at hc
              simp only [Option.some.injEq] at h; subst h
              have hb := bounds_sound (P := P) (w := w) (e := e) (A := A) (isS := false) (len' := n) (cap' := n) hbh hbl rfl (Nat.le_refl n) hhi hlo
              refine OkV.same hi (v' := .slice (some ⟨e.loc B, e.off B + (o + l * z), none⟩) (hh - l) (n - l + e.ext B)) ?_ (.slice hB)
              have hne : ¬ n = l := by omega
              simp only [Instr.sliceAt, Sem.run_bind, run_under hu, Result.andThen_ok, Instr.sureAddr, Sem.run_pure, hb, run_size hz, hx0]
              rw [if_neg hne]
              simp [add_none, Nat.add_assoc]
            · cases h
          · cases h
        · cases h
      · cases h
    · cases h
  · cases h
end Go.Dp
namespace Go.Dp
open Go
variable {P : Program} {e : Env} {A : AS} {w : World}
theorem nil_ptr_of {n : Nat} {x' : Value} (h : VR e n (.pointer none) x') : x' = .pointer none := VR.of_flat (by simp [Dp.flat, scalar]) h
theorem some_ptr_of {n : Nat} {a : Addr} {x' : Value} (h : VR e n (.pointer (some a)) x') : ∃ a', x' = .pointer (some a') := by
  cases h with
  | flat h => simp [Dp.flat, scalar] at h
  | ptr h => exact ⟨_, rfl⟩
theorem some_slice_of {n l c : Nat} {a : Addr} {x' : Value} (h : VR e n (.slice (some a) l c) x') : ∃ a' l' c', x' = .slice (some a') l' c' := by
  cases h with
  | flat h => simp [Dp.flat, scalar] at h
  | slice h => exact ⟨_, _, _, rfl⟩
  | void h => exact ⟨_, _, _, rfl⟩
  | pend h _ => exact ⟨_, _, _, rfl⟩
  | pended h _ => exact ⟨_, _, _, rfl⟩
theorem nil_slice_of {n l c : Nat} {x' : Value} (h : VR e n (.slice none l c) x') : x' = .slice none l c := by
  cases h with
  | flat h => rfl
theorem some_map_of {n b : Nat} {x' : Value} (h : VR e n (.map (some b)) x') : b < n ∧ x' = .map (some (e.loc b)) := by
  cases h with
  | flat h => simp [Dp.flat, scalar] at h
  | map h => exact ⟨h, rfl⟩
theorem nil_map_of {n : Nat} {x' : Value} (h : VR e n (.map none) x') : x' = .map none := VR.of_flat (by simp [Dp.flat, scalar]) h
theorem func_of {n : Nat} {f : Fn} {xs us : Array Value} {x' : Value} (h : VR e n (.func f xs us) x') : ∃ g ys vs, x' = .func g ys vs ∧ (∀ k, f = .func k → g = f) := by
  cases h with
  | flat h => exact ⟨_, _, _, rfl, fun _ _ => rfl⟩
  | func _ _ => exact ⟨_, _, _, rfl, fun _ _ => rfl⟩
  | yield _ => exact ⟨_, _, _, rfl, fun k h => by cases h⟩
theorem eqIn_sound (d : Nat) {t : TypeId} {a b a' b' : Value} {r : Bool} (h : aEq P t a b = some r) (ha : VR e A.next a a') (hb : VR e A.next b b') :
    (Op.equalIn (d + 1) t a' b').run P w = .ok r w := by
  unfold aEq at h
  split at h
  · rename_i el x hu
    simp at h; subst h
    obtain ⟨a2, rfl⟩ := some_ptr_of hb
    rw [nil_ptr_of ha]
    simp [Op.equalIn, run_under hu]
  · rename_i el x hu
    simp at h; subst h
    obtain ⟨a2, rfl⟩ := some_ptr_of ha
    rw [nil_ptr_of hb]
    simp [Op.equalIn, run_under hu]
  · rename_i el B o C p hu
    split at h
    · rename_i n hn
      split at h
      · rename_i hc
        simp at hc h
        obtain ⟨hn0, rfl⟩ := hc
        obtain ⟨_, rfl⟩ := ptr_of ha
        obtain ⟨_, rfl⟩ := ptr_of hb
        subst h
        have hn1 : n ≠ 0 := by rintro rfl; simp at hn0
        have hd : ((⟨e.loc B, e.off B + o, none⟩ : Addr) == ⟨e.loc B, e.off B + p, none⟩) = o.beq p := by
          rw [Bool.eq_iff_iff]; simp
        simp only [Op.equalIn, Sem.run_bind, run_under hu, Result.andThen_ok, run_size hn]
        rw [if_pos hn1]
        simp only [sameAddr, beq_self_eq_true, if_true, Sem.run_pure, hd]
      · cases h
    · cases h
  · rename_i el x1 x2 x3 x4 x5 hu
    simp at h; subst h
    obtain ⟨_, _, _, rfl⟩ := some_slice_of hb
    rw [nil_slice_of ha]
    simp [Op.equalIn, run_under hu]
  · rename_i el x1 x2 x3 x4 x5 hu
    simp at h; subst h
    obtain ⟨_, _, _, rfl⟩ := some_slice_of ha
    rw [nil_slice_of hb]
    simp [Op.equalIn, run_under hu]
  · rename_i k v x hu
    simp at h; subst h
    obtain ⟨_, rfl⟩ := some_map_of hb
    rw [nil_map_of ha]
    simp [Op.equalIn, run_under hu]
  · rename_i k v x hu
    simp at h; subst h
    obtain ⟨_, rfl⟩ := some_map_of ha
    rw [nil_map_of hb]
    simp [Op.equalIn, run_under hu]
  · rename_i x1 x2 x3 x4 x5 x6 hu
    simp at h; subst h
    obtain ⟨_, _, _, rfl, _⟩ := func_of hb
    rw [VR.of_flat (v := .nilFunc) (by simp [Dp.flat, scalar]) ha]
    simp [Op.equalIn, run_under hu]
  · rename_i x1 x2 x3 x4 x5 x6 hu
    simp at h; subst h
    obtain ⟨_, _, _, rfl, _⟩ := func_of ha
    rw [VR.of_flat (v := .nilFunc) (by simp [Dp.flat, scalar]) hb]
    simp [Op.equalIn, run_under hu]
  · cases h
theorem eq_sound {t : TypeId} {a b a' b' : Value} {r : Bool} (h : aEq P t a b = some r) (ha : VR e A.next a a') (hb : VR e A.next b b') :
    (Op.equal t a' b').run P w = .ok r w := eqIn_sound 9999 h ha hb
theorem makeSlice_sound (hi : Inv e A w) {t : TypeId} {len len' cap cap' v : Value} {A' : AS} (h : aMakeSlice P A t len cap = some (v, A'))
    (hl : VR e A.next len len') (hc : VR e A.next cap cap') :
    OkV P e A w (Instr.makeSlice t len' cap') v A' := by
  unfold aMakeSlice at h
  split at h
  · rename_i el k1 l k2 c hu
    rw [int_of hl, int_of hc]
    split at h
    · rename_i i hinfo
      split at h
      · rename_i z hzero
        split at h
        · rename_i hcond
          simp only [Bool.and_eq_true, decide_eq_true_eq, Nat.ble_eq] at hcond
          obtain ⟨⟨⟨⟨hzf, h0⟩, hlc⟩, hcb⟩, hbytes⟩ := hcond
          simp at h
          obtain ⟨rfl, rfl⟩ := h
          have hpat := pattern_rel (e := e) (n := A.next) z.cells (flat_cells hzf) (c.toNat * i.size)
          obtain ⟨e', h1, h2, h3, h4, h5⟩ := new_cells hi (cs := pattern z.cells (c.toNat * i.size)) (ccs := ⟨pattern z.cells (c.toNat * i.size)⟩) el i.size hpat
          refine ⟨e', _, .slice (some ⟨w.heap.size, 0, none⟩) l.toNat c.toNat, ?_, h1, h2, ?_⟩
          · have hs : tSize P el = some i.size := by simp [tSize, hinfo]
            have hzr : tZero P el = some z := by simp [tZero, hinfo, hzero]
            have hpa : ((Array.range (c.toNat * i.size)).map (z.cells[· % z.cells.size]!)) = ⟨pattern z.cells (c.toNat * i.size)⟩ := by
              apply Array.ext'
              simp [pattern]
            have hcb' : c ≤ 1099511627776 := by simpa using hcb
            have wl : IntKind.i64.wrap l = l := by
              simp [IntKind.wrap, IntKind.bits, IntKind.signed]; omega
            have wc : IntKind.i64.wrap c = c := by
              simp [IntKind.wrap, IntKind.bits, IntKind.signed]; omega
            have hbc : (i.bytes : Int) * c ≤ 140737488355328 := by
              have h1 : ((i.bytes * c.toNat : Nat) : Int) ≤ 2 ^ 47 := by exact_mod_cast hbytes
              have h2 : ((i.bytes * c.toNat : Nat) : Int) = (i.bytes : Int) * c := by
                rw [Int.natCast_mul, toNat_of_nonneg (by omega)]
              rw [h2] at h1
              simpa using h1
            have hnot : ¬ ((decide (c < 0) || decide ((i.bytes : Int) * c > 2 ^ 48) || decide (l < 0) || decide (l > c)) = true) := by
              simp
              refine ⟨⟨⟨by omega, ?_⟩, h0⟩, hlc⟩
              omega
            simp only [Instr.makeSlice, Sem.run_bind, run_under hu, Result.andThen_ok, asInt, asIntOf, Sem.run_pure, run_info hinfo, wl, wc]
            rw [if_neg (by simpa using hnot)]
            by_cases hn0 : c.toNat * i.size = 0
            · have hpa0 : ((Array.range (c.toNat * i.size)).map ((#[] : Array Value)[· % (#[] : Array Value).size]!)) = ⟨pattern z.cells (c.toNat * i.size)⟩ := by
                rw [hn0]; simp [pattern]
              simp only [Sem.run_bind, run_askRoom, Result.andThen_ok, run_size hs]
              rw [if_pos hn0]
              simp only [Sem.run_bind, Sem.run_pure, Result.andThen_ok, newRow, run_newObj, hpa0]
              rfl
            · simp only [Sem.run_bind, run_askRoom, Result.andThen_ok, run_size hs]
              rw [if_neg hn0]
              simp only [Sem.run_bind, run_zero hzr, Sem.run_pure, Result.andThen_ok, newRow, run_newObj, hpa]
              rfl
          · have := VR.slice (e := e') (n := A.next + 1) (B := A.next) (o := 0) (len := l.toNat) (c := c.toNat) (Nat.lt_succ_self _)
            rw [h3, h4, h5] at this
            exact this
        · cases h
      · cases h
    · cases h
  · cases h
end Go.Dp
namespace Go.Dp
open Go
variable {P : Program} {e : Env} {A : AS} {w : World}
theorem extract_all (s : ByteArray) : s.extract 0 s.size = s := by
  cases s with
  | mk d =>
    apply ByteArray.ext
    simp
theorem firstOf_sound (hi : Inv e A w) {size n : Nat} {x x' : Value} {vs : List Value} (h : firstOf A size n x = some vs) (hx : VR e A.next x x') :
    ∃ us, (∀ k, (Builtin.firstCells size n x').run P { w with drawn := k } = .ok ⟨us⟩ { w with drawn := k }) ∧ VRs e A.next vs us := by
  unfold firstOf at h
  split at h
  · simp at h; subst h
    rw [nil_slice_of hx]
    exact ⟨[], fun k => by simp [Builtin.firstCells], .nil⟩
  · rename_i B o len c
    obtain ⟨_, rfl⟩ := slice_of hx
    split at h
    · rename_i cs z ex hB
      obtain ⟨ys, hys, hc⟩ := rows_of hi hB
      obtain ⟨hr, hl⟩ := piece_rel hys h
      exact ⟨_, fun k => by simp only [Builtin.firstCells]; exact run_piece (w := { w with drawn := k }) hc hl, hr⟩
    · cases h
  · rename_i B o s
    split at h
    · rename_i hn
      simp at hn h
      subst hn h
      obtain ⟨a', l', c', rfl⟩ := some_slice_of hx
      refine ⟨[], fun k => ?_, .nil⟩
      have := run_loadCells_list (P := P) { w with drawn := k } a' [] (by simp)
      simp only [Builtin.firstCells, Nat.zero_mul]
      exact this
    · cases h
  · rename_i s
    split at h
    · rename_i hn
      simp at hn h
      subst hn h
      rw [string_of hx]
      refine ⟨_, fun k => ?_, VRs.all_flat (xs := s.data.toList.map fun b => .int .u8 b.toNat) ?_⟩
      · simp only [Builtin.firstCells, extract_all, Sem.run_pure]
        congr 1
        apply Array.ext'
        simp
      · simp only [List.all_map, List.all_eq_true]
        intro b _
        rfl
    · cases h
  · cases h
theorem lenA_sound {n : Nat} {x x' : Value} (h : lenA x = some n) (hx : VR e A.next x x') : (Builtin.lenOf x').run P w = .ok n w := by
  unfold lenA at h
  split at h
  · rename_i a l c
    simp at h; subst h
    have : ∃ a' c', x' = .slice a' l c' := by
      cases hx with
      | flat _ => exact ⟨_, _, rfl⟩
      | slice _ => exact ⟨_, _, rfl⟩
      | void _ => exact ⟨_, _, rfl⟩
      | pend _ _ => exact ⟨_, _, rfl⟩
      | pended _ _ => exact ⟨_, _, rfl⟩
    obtain ⟨a', c', rfl⟩ := this
    rfl
  · rename_i s
    simp at h; subst h
    rw [string_of hx]; rfl
  · cases h
section app
variable {sT xT el ty : TypeId} {xd : TypeDesc} {i : TypeInfo} {z : Value} {n : Nat} {x' : Value} {argTypes : Array TypeId}
theorem run_append_fits (h0 : argTypes[0]? = some sT) (h1 : argTypes[1]? = some xT) (hu : P.underlying sT = some (.slice el)) (hux : P.underlying xT = some xd)
    (hnx : isIntD xd = false) (hinfo : P.info? el = some i) (hlen : (Builtin.lenOf x').run P w = .ok n w)
    {us : List Value} (hfirst : (Builtin.firstCells i.size n x').run P w = .ok ⟨us⟩ w) (base : Option Addr) {sLen sCap : Nat} (hroom : sLen + n ≤ sCap) :
    (Builtin.append_ argTypes ty #[.slice base sLen sCap, x']).run P w =
      (match base with
        | some a => (storeCells (a.add (sLen * i.size)) us).run P w
        | none => .ok () w).andThen fun _ w' => .ok (.slice base (sLen + n) sCap) w' := by
  have hs : tSize P el = some i.size := by simp [tSize, hinfo]
  cases base with
  | none =>
    cases xd <;> first
      | (cases hnx; done)
      | (simp only [Builtin.append_, h0, h1, List.getElem?_toArray, List.getElem?_cons_zero, List.getElem?_cons_succ, Sem.run_bind, run_under hu, Result.andThen_ok, run_size hs, run_under hux, Sem.run_pure,
          Bool.false_eq_true, if_false, hlen, hroom, if_true, Bool.not_false, hfirst])
  | some a =>
    cases xd <;> first
      | (cases hnx; done)
      | (simp only [Builtin.append_, h0, h1, List.getElem?_toArray, List.getElem?_cons_zero, List.getElem?_cons_succ, Sem.run_bind, run_under hu, Result.andThen_ok, run_size hs, run_under hux, Sem.run_pure,
          Bool.false_eq_true, if_false, hlen, hroom, if_true, Bool.not_false, hfirst])
theorem run_append_grows (h0 : argTypes[0]? = some sT) (h1 : argTypes[1]? = some xT) (hu : P.underlying sT = some (.slice el)) (hux : P.underlying xT = some xd)
    (hnx : isIntD xd = false) (hinfo : P.info? el = some i) (hzero : i.zero = some z) (hlen : (Builtin.lenOf x').run P w = .ok n w)
    {us : List Value} (hfirst : ∀ k, (Builtin.firstCells i.size n x').run P { w with drawn := k } = .ok ⟨us⟩ { w with drawn := k }) (base : Option Addr) {sLen sCap : Nat} (hroom : sCap < sLen + n)
    {old : List Value} (hold : ∀ k, (Builtin.firstCells i.size sLen (.slice base sLen sCap)).run P { w with drawn := k } = .ok ⟨old⟩ { w with drawn := k })
    (hb : (sLen + n) * (i.bytes + 1) ≤ 2 ^ 46) :
    ∃ room, sLen + n ≤ room ∧ (Builtin.append_ argTypes ty #[.slice base sLen sCap, x']).run P w =
      .ok (.slice (some ⟨w.heap.size, 0, none⟩) (sLen + n) room)
        (World.push { w with drawn := w.drawn + 1 } (.cells ((⟨old⟩ : Array Value) ++ ⟨us⟩ ++ Builtin.zeroCells z.cells (room - (sLen + n))) el)) := by
  have hs : tSize P el = some i.size := by simp [tSize, hinfo]
  have hzr : tZero P el = some z := by simp [tZero, hinfo, hzero]
  have hneed : sLen + n ≤ 2 ^ 46 := by
    have : sLen + n ≤ (sLen + n) * (i.bytes + 1) := Nat.le_mul_of_pos_right _ (Nat.succ_pos _)
    omega
  have hnext : Builtin.nextslicecap (sLen + n) sCap * i.bytes ≤ 2 ^ 48 := by
    have h1 := nextslicecap_le hroom
    have h2 : Builtin.nextslicecap (sLen + n) sCap * i.bytes ≤ 2 * (sLen + n) * i.bytes := Nat.mul_le_mul_right _ h1
    have h3 : (sLen + n) * i.bytes ≤ (sLen + n) * (i.bytes + 1) := Nat.mul_le_mul_left _ (Nat.le_succ _)
    rw [Nat.mul_assoc] at h2
    omega
  let q := Question.appendCap (sLen + n) sCap el
  refine ⟨q.cut (w.tape w.drawn q), ?_, ?_⟩
  · simp [q, Question.cut]
  · have hnot1 : ¬ (((sLen + n : Nat) : Int) > IntKind.i64.max ∧ (False ∨ i.bytes = 0)) := by
      rintro ⟨h, _⟩
      have : (IntKind.i64.max : Int) = 9223372036854775807 := by decide
      rw [this] at h
      omega
    have hnot2 : ¬ (Builtin.nextslicecap (sLen + n) sCap * i.bytes > 2 ^ 48) := by omega
    have hnr : ¬ (sLen + n ≤ sCap) := by omega
    have hforced : q.forced = false := rfl
    have hch : (choose (.appendCap (sLen + n) sCap el)).run P w = .ok (q.cut (w.tape w.drawn q)) { w with drawn := w.drawn + 1 } := by
      rw [run_choose]; simp [q, Question.forced]
    have hold' := hold (w.drawn + 1)
    have hfirst' := hfirst (w.drawn + 1)
    cases xd <;> first
      | (cases hnx; done)
      | (simp only [Builtin.append_, h0, h1, List.getElem?_toArray, List.getElem?_cons_zero, List.getElem?_cons_succ, Sem.run_bind, run_under hu, Result.andThen_ok, run_size hs, run_under hux, Sem.run_pure,
          Bool.false_eq_true, if_false, hlen]
         rw [if_neg hnr]
         simp only [Sem.run_bind, run_info hinfo, Result.andThen_ok]
         rw [if_neg hnot1]
         simp only [Sem.run_bind, run_info hinfo, Result.andThen_ok]
         rw [if_neg hnot2]
         simp only [Sem.run_bind, Sem.run_pure, Result.andThen_ok, hch, run_info hinfo, run_askRoom, hold', Bool.not_false, if_true, hfirst', run_zero hzr, newRow, run_newObj]
         rfl)
end app
end Go.Dp
namespace Go.Dp
open Go
variable {P : Program} {e : Env} {A : AS} {w : World}
theorem move_sound {w' : World} (hi : Inv e A w) {B off ext : Nat} {o o' : AObj} (hB : A.get B = some o) (hr : A.ro ≤ B)
    (hsize : w'.heap.size = w.heap.size) (hother : ∀ b, b ≠ e.loc B → w'.heap[b]? = w.heap[b]?) (htape : w'.tape = w.tape) (hos : w'.os = w.os)
    (hout : w'.output = w.output) (fits : ObjAt (e.bind A.next (e.loc B) off ext) (A.next + 1) A.ro w' A.next o') :
    Inv (e.bind A.next (e.loc B) off ext) ((A.put B none).new o') w' ∧ Step e A w (e.bind A.next (e.loc B) off ext) ((A.put B none).new o') w' := by
  have ha := e.agrees_bind A.next (e.loc B) off ext
  have hBlt := hi.dom B o hB
  have hnext : (e.bind A.next (e.loc B) off ext).loc A.next = e.loc B := by simp [Env.bind]
  have hget : ∀ C oC, ((A.put B none).new o').get C = some oC → (C = A.next ∧ oC = o') ∨ (C ≠ A.next ∧ C ≠ B ∧ A.get C = some oC) := by
    intro C oC hC
    rw [AS.get_new] at hC
    by_cases h : A.next = C
    · left
      rw [if_pos (by exact h)] at hC
      simp at hC
      exact ⟨h.symm, hC.symm⟩
    · right
      rw [if_neg (by exact h), AS.get_put] at hC
      by_cases h' : B = C
      · simp [h'] at hC
      · rw [if_neg h'] at hC
        exact ⟨Ne.symm h, Ne.symm h', hC⟩
  constructor
  · constructor
    · intro C oC hC
      rcases hget C oC hC with ⟨rfl, rfl⟩ | ⟨h1, h2, h3⟩
      · exact fits
      · have hlt := hi.dom C oC h3
        refine (hi.obj C oC h3).mono hlt ha (Nat.le_succ _) (hother _ ?_)
        exact (hi.inj B C o oC hB h3 (Ne.symm h2) hr).symm
    · intro C oC hC
      rcases hget C oC hC with ⟨rfl, rfl⟩ | ⟨h1, h2, h3⟩
      · exact Nat.lt_succ_self _
      · exact Nat.lt_succ_of_lt (hi.dom C oC h3)
    · intro C C' o1 o2 h1 h2 hne hrC
      rcases hget C o1 h1 with ⟨rfl, rfl⟩ | ⟨a1, a2, a3⟩
      · rcases hget C' o2 h2 with ⟨rfl, rfl⟩ | ⟨b1, b2, b3⟩
        · exact absurd rfl hne
        · rw [hnext, (ha C' (hi.dom C' o2 b3)).1]
          exact hi.inj B C' o o2 hB b3 (Ne.symm b2) hr
      · rcases hget C' o2 h2 with ⟨rfl, rfl⟩ | ⟨b1, b2, b3⟩
        · rw [hnext, (ha C (hi.dom C o1 a3)).1]
          exact (hi.inj B C o o1 hB a3 (Ne.symm a2) hr).symm
        · rw [(ha C (hi.dom C o1 a3)).1, (ha C' (hi.dom C' o2 b3)).1]
          exact hi.inj C C' o1 o2 a3 b3 hne hrC
    · exact Nat.le_succ_of_le hi.le
  · refine { env := ?_, next := Nat.le_succ _, ro := rfl, fixed := ?_, locs := ?_, size := Nat.le_of_eq hsize.symm, keep := ?_, tape := htape, os := hos, output := hout }
    · intro C hC
      have : C ≠ A.next := by
        have h1 : ((A.put B none).new o').next = A.next + 1 := rfl
        omega
      simp [Env.bind, this]
    · intro C hC
      have := hi.le
      rw [AS.get_new, if_neg (show ¬ (A.put B none).next = C from by show ¬ A.next = C; omega), AS.get_put, if_neg (by omega)]
    · intro C oC hC hrC
      rcases hget C oC hC with ⟨rfl, rfl⟩ | ⟨h1, h2, h3⟩
      · exact .inr ⟨B, o, hB, hr, hnext.symm⟩
      · exact .inr ⟨C, oC, h3, hrC, ((ha C (hi.dom C oC h3)).1).symm⟩
    · intro b _ hn
      exact hother b (fun h => hn B o hB hr h.symm)
theorem put_none_new_sound (hi : Inv e A w) {B : Nat} {o o' : AObj} (hB : A.get B = some o) (hr : A.ro ≤ B) (c : Obj) (x : Nat)
    (fits : ObjAt (e.bind A.next w.heap.size 0 x) (A.next + 1) A.ro (w.push c) A.next o') :
    Inv (e.bind A.next w.heap.size 0 x) ((A.put B none).new o') (w.push c) ∧ Step e A w (e.bind A.next w.heap.size 0 x) ((A.put B none).new o') (w.push c) := by
  obtain ⟨h1, h2⟩ := drop_sound (w' := w) hi hB hr rfl (fun _ _ => rfl) rfl rfl rfl
  obtain ⟨h3, h4⟩ := new_sound h1 o' c x fits
  exact ⟨h3, h2.trans h4⟩
theorem zeroCells_size (z : Array Value) (n : Nat) : (Builtin.zeroCells z n).size = n * z.size := by simp [Builtin.zeroCells]
theorem grown_fits {old us vs ys : List Value} {room size k : Nat} {el : TypeId} {z : Array Value} (hold : VRs e A.next old ys) (hvs : VRs e A.next vs us)
    (hz : z.size = size) :
    ObjAt (e.bind A.next w.heap.size 0 (room - k)) (A.next + 1) A.ro (w.push (.cells ((⟨ys⟩ : Array Value) ++ ⟨us⟩ ++ Builtin.zeroCells z (room - k)) el)) A.next (.cells (old ++ vs) size true) := by
  have hrel := hold.append hvs
  have hlen := hrel.length
  refine ⟨(⟨ys⟩ : Array Value) ++ ⟨us⟩ ++ Builtin.zeroCells z (room - k), el, (0, 0), ?_, (fun h => by cases h), ?_, ?_, ?_⟩
  · simp only [Env.bind, if_true]; exact push_get_eq w _
  · simp [Env.bind, zeroCells_size, hz]
    simp at hlen
    omega
  · intro i v hv
    obtain ⟨y, hy, r⟩ := hrel.get hv
    refine ⟨y, ?_, r.mono (e.agrees_bind _ _ _ _) (Nat.le_succ _)⟩
    have hi : i < (ys ++ us).length := by
      rcases Nat.lt_or_ge i (ys ++ us).length with h | h
      · exact h
      · simp [List.getElem?_eq_none h] at hy
    simp only [Env.bind, if_true, Nat.zero_add]
    rw [Array.getElem?_append]
    have : i < ((⟨ys⟩ : Array Value) ++ ⟨us⟩).size := by simpa using hi
    rw [if_pos this]
    simpa using hy
  · intro _ j h1 h2; simp
theorem grown_slice {e' : Env} {n b len room : Nat} (hn : n < n + 1) (h1 : e'.loc n = b) (h2 : e'.off n = 0) (h3 : e'.ext n = room - len) (hle : len ≤ room) :
    VR e' (n + 1) (.slice (some ⟨n, 0, none⟩) len len) (.slice (some ⟨b, 0, none⟩) len room) := by
  have := VR.slice (e := e') (n := n + 1) (B := n) (o := 0) (len := len) (c := len) hn
  rw [h1, h2, h3] at this
  have e1 : len + (room - len) = room := by omega
  rw [e1] at this
  exact this
section app
variable {sT xT el ty : TypeId} {xd : TypeDesc} {i : TypeInfo} {z : Value} {n : Nat} {x x' : Value} {argTypes : Array TypeId} {vs : List Value}
theorem grows_fresh (hi : Inv e A w) (h0 : argTypes[0]? = some sT) (h1 : argTypes[1]? = some xT) (hu : P.underlying sT = some (.slice el)) (hux : P.underlying xT = some xd)
    (hnx : isIntD xd = false) (hinfo : P.info? el = some i) (hzero : i.zero = some z) (hzs : z.cells.size = i.size) (hlen : lenA x = some n) (hx : VR e A.next x x')
    (hfirst : firstOf A i.size n x = some vs) (base : Option Addr) {sLen sCap : Nat} (hroom : sCap < sLen + n)
    {old : List Value} {ys : List Value} (hrel : VRs e A.next old ys)
    (hold : ∀ k, (Builtin.firstCells i.size sLen (.slice base sLen sCap)).run P { w with drawn := k } = .ok ⟨ys⟩ { w with drawn := k })
    (hb : (sLen + n) * (i.bytes + 1) ≤ 2 ^ 46) (A0 : AS) (hA0 : A0 = A ∨ ∃ B o, A.get B = some o ∧ A.ro ≤ B ∧ A0 = A.put B none) :
    OkV P e A w (Builtin.append_ argTypes ty #[.slice base sLen sCap, x']) (grown A0 (old ++ vs) i.size (sLen + n)).1 (grown A0 (old ++ vs) i.size (sLen + n)).2 := by
  obtain ⟨us, hus, hvr⟩ := firstOf_sound (P := P) hi hfirst hx
  obtain ⟨room, hle, hrun⟩ := run_append_grows (P := P) (w := w) (ty := ty) (z := z) h0 h1 hu hux hnx hinfo hzero (lenA_sound hlen hx) hus base hroom hold hb
  have hfits := grown_fits (A := A) (w := { w with drawn := w.drawn + 1 }) (el := el) hrel hvr hzs (k := sLen + n) (room := room)
  have hd := hi.drawn (w.drawn + 1)
  have hst := Step.drawn e A w (w.drawn + 1)
  rcases hA0 with rfl | ⟨B, o, hB, hr, rfl⟩
  · obtain ⟨g1, g2⟩ := new_sound hd _ _ _ hfits
    exact ⟨_, _, _, hrun, g1, hst.trans g2, grown_slice (Nat.lt_succ_self _) (by simp [Env.bind]) (by simp [Env.bind]) (by simp [Env.bind]) hle⟩
  · obtain ⟨g1, g2⟩ := put_none_new_sound hd hB hr _ _ hfits
    exact ⟨_, _, _, hrun, g1, hst.trans g2, grown_slice (Nat.lt_succ_self _) (by simp [Env.bind, AS.put]) (by simp [Env.bind, AS.put]) (by simp [Env.bind, AS.put]) hle⟩
theorem grows_inplace (hi : Inv e A w) (h0 : argTypes[0]? = some sT) (h1 : argTypes[1]? = some xT) (hu : P.underlying sT = some (.slice el)) (hux : P.underlying xT = some xd)
    (hnx : isIntD xd = false) (hinfo : P.info? el = some i) (hlen : lenA x = some n) (hx : VR e A.next x x')
    (hfirst : firstOf A i.size n x = some vs) (hvl : vs.length = n * i.size) (hone : vs.all Value.oneCell' = true)
    {B o oo len c : Nat} {cs : List Value} (hB : A.get B = some (.cells cs i.size true)) (hr : A.ro ≤ B) {old : List Value}
    (hold : old = (cs.drop o).take (len * i.size)) (hol : old.length = len * i.size) (hend : oo + c * i.size = cs.length) (hoo : oo = o ∨ len = 0)
    (hroom : len + n ≤ c + e.ext B) :
    OkV P e A w (Builtin.append_ argTypes ty #[.slice (some ⟨e.loc B, e.off B + oo, none⟩) len (c + e.ext B), x'])
      (grown (A.put B none) (old ++ vs) i.size (len + n)).1 (grown (A.put B none) (old ++ vs) i.size (len + n)).2 := by
  obtain ⟨us, hus, hvr⟩ := firstOf_sound (P := P) hi hfirst hx
  have hus0 := hus w.drawn
  have hrun := run_append_fits (P := P) (w := w) (ty := ty) (x' := x') h0 h1 hu hux hnx hinfo (lenA_sound hlen hx) hus0 (some ⟨e.loc B, e.off B + oo, none⟩) hroom
  obtain ⟨ccs, T, fr, hb, hxx, hs, hc, hf⟩ := hi.obj B _ hB
  have hfr := hf hr
  have hul := hvr.length
  have hbound : len * i.size + n * i.size ≤ c * i.size + e.ext B * i.size := by
    have := Nat.mul_le_mul_right i.size hroom
    rwa [Nat.add_mul, Nat.add_mul] at this
  have hcell : ∀ j, j < us.length → (w.cell? ⟨e.loc B, e.off B + oo + len * i.size + 0 + j, none⟩).isSome = true := by
    intro j hj
    simp [World.cell?, hb]
    omega
  have hfz : ∀ j, j < us.length → w.frozen? ⟨e.loc B, e.off B + oo + len * i.size + 0 + j, none⟩ = false := by
    intro j hj
    have := hfr (e.off B + oo + len * i.size + j) (by omega) (by omega)
    obtain ⟨lo, hi'⟩ := fr
    simp [World.frozen?, hb]
    simp at this
    omega
  have hst := run_storeCells_cells (P := P) (e.loc B) (e.off B + oo + len * i.size) us 0 w hcell hfz (hvr.one' hone)
  simp only [Nat.add_zero] at hst
  obtain ⟨⟨ccs', hb', hsz', hg'⟩, r1, r2, r3, r4, r5⟩ := setCells_heap (e.loc B) us (e.off B + oo + len * i.size) w ccs T fr hb (by omega)
  have hexteq : e.ext B + c - (len + n) + (len + n) = e.ext B + c := by omega
  have hm := move_sound (off := e.off B + oo) (ext := e.ext B + c - (len + n)) (o' := .cells (old ++ vs) i.size true) hi hB hr r1 r2 r3 r4 r5 ?_
  · refine ⟨_, _, _, ?_, hm.1, hm.2, VR.slice (B := A.next) (o := 0) (len := len + n) (c := len + n) (Nat.lt_succ_self _)⟩
    rw [hrun]
    simp only [add_none, hst, Result.andThen_ok, Env.bind, if_true, Nat.add_zero]
    have e1 : len + n + (e.ext B + c - (len + n)) = c + e.ext B := by omega
    rw [e1]
  · refine ⟨ccs', T, fr, by simpa [Env.bind] using hb', (fun h => by cases h), ?_, ?_, ?_⟩
    · simp only [Env.bind, if_true, List.length_append, hsz']
      have h1 : (e.ext B + c - (len + n)) * i.size + (len + n) * i.size = (e.ext B + c) * i.size := by rw [← Nat.add_mul, hexteq]
      rw [Nat.add_mul, Nat.add_mul] at h1
      omega
    · intro j v hv
      have hm1 : ∀ {v v'}, VR e A.next v v' → VR (e.bind A.next (e.loc B) (e.off B + oo) (e.ext B + c - (len + n))) (A.next + 1) v v' := fun h => h.mono (e.agrees_bind _ _ _ _) (Nat.le_succ _)
      simp only [Env.bind, if_true]
      rw [hg']
      by_cases hj : j < old.length
      · rw [List.getElem?_append_left hj] at hv
        have : ¬ (e.off B + oo + len * i.size ≤ e.off B + oo + j ∧ e.off B + oo + j < e.off B + oo + len * i.size + us.length) := by omega
        rw [if_neg this]
        have hoo' : oo = o := by
          rcases hoo with h | h
          · exact h
          · rw [h, Nat.zero_mul] at hol; omega
        subst hoo'
        rw [hold, List.getElem?_take, if_pos (by omega), List.getElem?_drop] at hv
        obtain ⟨v', hv', rr⟩ := hc _ _ hv
        exact ⟨v', by rw [← hv']; congr 1; omega, hm1 rr⟩
      · rw [List.getElem?_append_right (by omega)] at hv
        obtain ⟨y, hy, rr⟩ := hvr.get hv
        have hlt : j - old.length < us.length := by
          rcases Nat.lt_or_ge (j - old.length) us.length with h | h
          · exact h
          · simp [List.getElem?_eq_none h] at hy
        have : e.off B + oo + len * i.size ≤ e.off B + oo + j ∧ e.off B + oo + j < e.off B + oo + len * i.size + us.length := by omega
        rw [if_pos this]
        exact ⟨y, by rw [← hy]; congr 1; omega, hm1 rr⟩
    · intro _ j h1 h2
      simp only [Env.bind, if_true, List.length_append] at h1 h2
      have h3 : (e.ext B + c - (len + n)) * i.size + (len + n) * i.size = (e.ext B + c) * i.size := by rw [← Nat.add_mul, hexteq]
      rw [Nat.add_mul, Nat.add_mul] at h3
      exact hfr j (by omega) (by omega)
end app
theorem append_sound (hi : Inv e A w) {argTypes : Array TypeId} {ty : TypeId} {s s' x x' v : Value} {A' : AS} (h : aAppend P A argTypes s x = some (v, A'))
    (hs : VR e A.next s s') (hx : VR e A.next x x') : OkV P e A w (Builtin.append_ argTypes ty #[s', x']) v A' := by
  unfold aAppend at h
  split at h
  · rename_i sT xT h0 h1
    split at h
    · rename_i el xd hu hux
      split at h
      · rename_i i hinfo
        split at h
        · rename_i z n hzero hlen
          split at h
          · rename_i vs hfirst
            split at h
            · rename_i hcond
              simp only [Bool.and_eq_true, Nat.beq_eq, Bool.not_eq_true'] at hcond
              obtain ⟨⟨⟨hnx', hzs⟩, hvl⟩, hone⟩ := hcond
              obtain ⟨us, hus, hvr⟩ := firstOf_sound (P := P) hi hfirst hx
              have hfits := fun base sLen sCap (hroom : sLen + n ≤ sCap) => run_append_fits (P := P) (w := w) (ty := ty) (x' := x') h0 h1 hu hux hnx' hinfo (lenA_sound hlen hx) (hus w.drawn) base hroom
              have hus0 : n = 0 → us = [] := by
                rintro rfl
                have := hvr.length
                rw [hvl, Nat.zero_mul] at this
                exact List.length_eq_zero_iff.1 this
              have hnothing : ∀ base sLen sCap, n = 0 → sLen ≤ sCap → (Builtin.append_ argTypes ty #[.slice base sLen sCap, x']).run P w = .ok (.slice base sLen sCap) w := by
                intro base sLen sCap hn hle
                rw [hfits base sLen sCap (by omega), hus0 hn, hn]
                cases base <;> simp [storeCells]
              split at h
              · have hs' := nil_slice_of hs
                subst hs'
                split at h
                · rename_i hn
                  simp at h hn
                  obtain ⟨rfl, rfl⟩ := h
                  exact OkV.same hi (hnothing _ _ _ hn (Nat.le_refl _)) hs
                · rename_i hn
                  simp at hn
                  split at h
                  · rename_i hb
                    simp only [Nat.ble_eq] at hb
                    simp only [Option.some.injEq] at h
                    have := grows_fresh (P := P) (ty := ty) hi h0 h1 hu hux hnx' hinfo hzero hzs hlen hx hfirst none (sLen := 0) (sCap := 0) (by omega) (old := []) (ys := []) .nil
                      (fun k => by simp [Builtin.firstCells]) (by simpa using hb) A (.inl rfl)
                    rw [List.nil_append, Nat.zero_add] at this
                    rw [h] at this
                    exact this
                  · cases h
              · rename_i B o len c
                obtain ⟨hBn, rfl⟩ := slice_of hs
                split at h
                · rename_i hroom
                  simp only [Nat.ble_eq] at hroom
                  split at h
                  · rename_i hn
                    simp only [Nat.beq_eq] at hn
                    simp only [Option.some.injEq, Prod.mk.injEq] at h
                    obtain ⟨rfl, rfl⟩ := h
                    exact OkV.same hi (hnothing _ _ _ hn (by omega)) hs
                  · split at h
                    · rename_i A2 hst
                      simp only [Option.some.injEq, Prod.mk.injEq] at h
                      obtain ⟨rfl, rfl⟩ := h
                      obtain ⟨w', hrun, hi', hstep, hnx2⟩ := storeAll_sound (P := P) hi hst hvr
                      refine ⟨e, w', _, ?_, hi', hstep, by rw [hnx2]; exact .slice hBn⟩
                      rw [hfits _ _ _ (by omega)]
                      simp only [add_none]
                      rw [← Nat.add_assoc] at hrun
                      rw [hrun]; rfl
                    · cases h
                · rename_i hroom
                  simp only [Nat.ble_eq] at hroom
                  split at h
                  · rename_i hb
                    simp only [Nat.ble_eq] at hb
                    split at h
                    · rename_i cs zz ext hB
                      split at h
                      · rename_i old hp
                        obtain ⟨ys, hys, hc⟩ := rows_of hi hB
                        obtain ⟨hr, hl⟩ := piece_rel hys hp
                        obtain ⟨hpe, hpl⟩ := piece_some hp
                        have hold : ∀ cap k, (Builtin.firstCells i.size len (.slice (some ⟨e.loc B, e.off B + o, none⟩) len cap)).run P { w with drawn := k } = .ok ⟨(ys.drop o).take (len * i.size)⟩ { w with drawn := k } := by
                          intro cap k
                          simp only [Builtin.firstCells]
                          exact run_piece (w := { w with drawn := k }) hc hl
                        split at h
                        · rename_i hext
                          subst hext
                          split at h
                          · rename_i hcc
                            simp only [Bool.and_eq_true, Nat.ble_eq, Nat.beq_eq] at hcc
                            obtain ⟨⟨hro, rfl⟩, hend⟩ := hcc
                            simp only [Option.some.injEq] at h
                            by_cases hrm : len + n ≤ c + e.ext B
                            · have := grows_inplace (P := P) (ty := ty) hi h0 h1 hu hux hnx' hinfo hlen hx hfirst hvl hone hB hro hpe hpl hend (.inl rfl) hrm
                              rw [h] at this
                              exact this
                            · have := grows_fresh (P := P) (ty := ty) hi h0 h1 hu hux hnx' hinfo hzero hzs hlen hx hfirst (some ⟨e.loc B, e.off B + o, none⟩) (sLen := len) (sCap := c + e.ext B) (by omega) hr
                                (hold _) hb (A.put B none) (.inr ⟨B, _, hB, hro, rfl⟩)
                              rw [h] at this
                              exact this
                          · cases h
                        · rename_i hext
                          simp only [Option.some.injEq] at h
                          have hx0 : e.ext B = 0 := by
                            obtain ⟨_, _, _, _, hx2, _⟩ := hi.obj B _ hB
                            exact hx2 (by simpa using hext)
                          have := grows_fresh (P := P) (ty := ty) hi h0 h1 hu hux hnx' hinfo hzero hzs hlen hx hfirst (some ⟨e.loc B, e.off B + o, none⟩) (sLen := len) (sCap := c + e.ext B) (by omega) hr
                            (hold _) hb A (.inl rfl)
                          rw [h] at this
                          exact this
                      · cases h
                    · cases h
                  · cases h
              · rename_i B o
                have hs' : ∃ a, s' = .slice (some a) 0 0 := by
                  cases hs with
                  | flat h => simp [Dp.flat, scalar] at h
                  | void _ => exact ⟨_, rfl⟩
                obtain ⟨a, rfl⟩ := hs'
                split at h
                · rename_i hn
                  simp only [Nat.beq_eq] at hn
                  simp only [Option.some.injEq, Prod.mk.injEq] at h
                  obtain ⟨rfl, rfl⟩ := h
                  exact OkV.same hi (hnothing _ _ _ hn (Nat.le_refl _)) hs
                · rename_i hn
                  simp only [Nat.beq_eq] at hn
                  split at h
                  · rename_i hb
                    simp only [Nat.ble_eq] at hb
                    simp only [Option.some.injEq] at h
                    have := grows_fresh (P := P) (ty := ty) hi h0 h1 hu hux hnx' hinfo hzero hzs hlen hx hfirst (some a) (sLen := 0) (sCap := 0) (by omega) (old := []) (ys := []) .nil
                      (fun k => by
                        have := run_loadCells_list (P := P) { w with drawn := k } a [] (by simp)
                        simp only [Builtin.firstCells, Nat.zero_mul]
                        exact this) (by simpa using hb) A (.inl rfl)
                    rw [List.nil_append, Nat.zero_add] at this
                    rw [h] at this
                    exact this
                  · cases h
              · rename_i B o k
                split at h
                · rename_i hn
                  simp only [Nat.beq_eq] at hn
                  simp only [Option.some.injEq, Prod.mk.injEq] at h
                  obtain ⟨rfl, rfl⟩ := h
                  have : ∃ a c', s' = .slice (some a) 0 c' := by
                    cases hs with
                    | flat h => simp [Dp.flat, scalar] at h
                    | pend _ _ => exact ⟨_, _, rfl⟩
                    | pended _ _ => exact ⟨_, _, rfl⟩
                  obtain ⟨a, c', rfl⟩ := this
                  exact OkV.same hi (hnothing _ _ _ hn (Nat.zero_le _)) hs
                · rename_i hn
                  simp only [Nat.beq_eq] at hn
                  split at h
                  · rename_i hb
                    simp only [Nat.ble_eq] at hb
                    split at h
                    · rename_i cs zz hB
                      split at h
                      · rename_i hcc
                        simp only [Bool.and_eq_true, Nat.ble_eq, Nat.beq_eq] at hcc
                        obtain ⟨⟨hro, rfl⟩, hend⟩ := hcc
                        simp only [Option.some.injEq] at h
                        have hfresh : ∀ a cap, cap < n → s' = .slice (some a) 0 cap → OkV P e A w (Builtin.append_ argTypes ty #[s', x']) v A' := by
                          rintro a cap hcap rfl
                          have := grows_fresh (P := P) (ty := ty) hi h0 h1 hu hux hnx' hinfo hzero hzs hlen hx hfirst (some a) (sLen := 0) (sCap := cap) (by omega) (old := []) (ys := []) .nil
                            (fun k => by
                              have := run_loadCells_list (P := P) { w with drawn := k } a [] (by simp)
                              simp only [Builtin.firstCells, Nat.zero_mul]
                              exact this) (by simpa using hb) (A.put B none) (.inr ⟨B, _, hB, hro, rfl⟩)
                          rw [List.nil_append, Nat.zero_add] at this
                          rw [h] at this
                          exact this
                        cases hs with
                        | flat h => simp [Dp.flat, scalar] at h
                        | pend _ _ => exact hfresh _ _ (by omega) rfl
                        | pended hlt hne =>
                          by_cases hrm : n ≤ e.ext B
                          · have := grows_inplace (P := P) (ty := ty) hi h0 h1 hu hux hnx' hinfo hlen hx hfirst hvl hone (o := 0) (oo := o + (k + 1)) (len := 0) (c := 0) hB hro (old := []) (by simp) (by simp)
                              (by omega) (.inr rfl) (by omega)
                            rw [List.nil_append, Nat.zero_add, Nat.zero_add, ← Nat.add_assoc (e.off B)] at this
                            rw [h] at this
                            exact this
                          · exact hfresh _ _ (by omega) rfl
                      · cases h
                    · cases h
                  · cases h
              · cases h
            · cases h
          · cases h
        · cases h
      · cases h
    · cases h
  · cases h
end Go.Dp
namespace Go.Dp
open Go
variable {P : Program} {e : Env} {A : AS} {w : World}
theorem copy_sound (hi : Inv e A w) {argTypes : Array TypeId} {ty : TypeId} {d d' s s' v : Value} {A' : AS} (h : aCopy P A argTypes d s = some (v, A'))
    (hd : VR e A.next d d') (hs : VR e A.next s s') : OkV P e A w (Builtin.copy_ argTypes ty #[d', s']) v A' := by
  unfold aCopy at h
  split at h
  · rename_i dT h0
    split at h
    · rename_i el hu
      split at h
      · rename_i size m hsz hlen
        split at h
        · rename_i B o len c
          obtain ⟨hB, rfl⟩ := slice_of hd
          split at h
          · rename_i vs hfirst
            split at h
            · rename_i A2 hst
              simp only [Option.some.injEq, Prod.mk.injEq] at h
              obtain ⟨rfl, rfl⟩ := h
              obtain ⟨us, hus, hvr⟩ := firstOf_sound (P := P) hi hfirst hs
              obtain ⟨w', hrun, hi', hstep, hnx⟩ := storeAll_sound (P := P) hi hst hvr
              refine ⟨e, w', .int .i64 (Nat.min m len), ?_, hi', hstep, .flat (by simp [Dp.flat, scalar])⟩
              simp only [Builtin.copy_, h0, List.getElem?_toArray, List.getElem?_cons_zero, List.getElem?_cons_succ, Sem.run_bind, run_under hu, Result.andThen_ok, lenA_sound hlen hs,
                run_size hsz, hus w.drawn, hrun, Sem.run_pure]
              rfl
            · cases h
          · cases h
        · cases h
      · cases h
    · cases h
  · cases h
theorem getObj_run {r : Nat} {o : Obj} (h : w.heap[r]? = some o) (hc : ∀ c t f, o ≠ .cells c t f) : (getObj r).run P w = .ok o w := by
  cases o with
  | cells c t f => exact absurd rfl (hc c t f)
  | _ => simp only [getObj, Sem.run, h]
theorem setObj_run {r : Nat} {o o' : Obj} (h : w.heap[r]? = some o) (hc : ∀ c t f, o ≠ .cells c t f) :
    (setObj r o').run P w = .ok () { w with heap := w.heap.setIfInBounds r o' } := by
  cases o with
  | cells c t f => exact absurd rfl (hc c t f)
  | _ => simp only [setObj, Sem.run, h]
theorem map_at {B : Nat} {es : List MapEntry} {clock : Nat} (hi : Inv e A w) (hB : A.get B = some (.map es clock)) :
    ∃ ces, w.heap[e.loc B]? = some (.map ces clock) ∧ ces.size = es.length ∧
      ∀ (i : Nat) (en : MapEntry), es[i]? = some en → ∃ cen : MapEntry, ces[i]? = some cen ∧ flat en.key = true ∧ cen.key = en.key ∧ cen.born = en.born ∧ VR e A.next en.val cen.val :=
  hi.obj B _ hB
theorem len_sound (hi : Inv e A w) {argTypes : Array TypeId} {ty : TypeId} {x x' v : Value} (h : aLen P A argTypes x = some v) (hx : VR e A.next x x') :
    OkV P e A w (Builtin.len_ argTypes ty #[x']) v A := by
  unfold aLen at h
  split at h
  · rename_i t h0
    split at h
    · rename_i el a n c hu
      simp only [Option.some.injEq] at h; subst h
      have : ∃ a' c', x' = .slice a' n c' := by
        cases hx with
        | flat _ => exact ⟨_, _, rfl⟩
        | slice _ => exact ⟨_, _, rfl⟩
        | void _ => exact ⟨_, _, rfl⟩
        | pend _ _ => exact ⟨_, _, rfl⟩
        | pended _ _ => exact ⟨_, _, rfl⟩
      obtain ⟨a', c', rfl⟩ := this
      refine OkV.same hi (v' := .int .i64 n) ?_ (.flat (by simp [Dp.flat, scalar]))
      simp [Builtin.len_, h0, run_under hu, goInt]
    · rename_i k vt B hu
      obtain ⟨hB, rfl⟩ := some_map_of hx
      split at h
      · rename_i es clock hm
        simp only [Option.some.injEq] at h; subst h
        obtain ⟨ces, hb, hsz, _⟩ := map_at hi hm
        refine OkV.same hi (v' := .int .i64 es.length) ?_ (.flat (by simp [Dp.flat, scalar]))
        simp [Builtin.len_, h0, run_under hu, goInt, getObj_run hb (by simp), hsz]
      · cases h
    · rename_i n el hu
      simp only [Option.some.injEq] at h; subst h
      refine OkV.same hi (v' := .int .i64 n) ?_ (.flat (by simp [Dp.flat, scalar]))
      simp [Builtin.len_, h0, run_under hu, goInt]
    · cases h
  · cases h
theorem cap_sound (hi : Inv e A w) {argTypes : Array TypeId} {ty : TypeId} {x x' v : Value} (h : aCap P A argTypes x = some v) (hx : VR e A.next x x') :
    OkV P e A w (Builtin.cap_ argTypes ty #[x']) v A := by
  unfold aCap at h
  split at h
  · rename_i t h0
    split at h
    · rename_i el B o n c hu
      split at h
      · rename_i cs z hB
        simp only [Option.some.injEq] at h; subst h
        obtain ⟨_, rfl⟩ := slice_of hx
        have hx0 : e.ext B = 0 := by
          obtain ⟨_, _, _, _, hx2, _⟩ := hi.obj B _ hB
          exact hx2 rfl
        refine OkV.same hi (v' := .int .i64 c) ?_ (.flat (by simp [Dp.flat, scalar]))
        simp [Builtin.cap_, h0, run_under hu, goInt, hx0]
      · cases h
    · cases h
  · cases h
theorem pureRun_bind {α β : Type} (f : α → Sem β) : ∀ (x : Sem α), pureRun P (x >>= f) = (pureRun P x).bind fun a => pureRun P (f a)
  | .pure a => rfl
  | .program k => by
    show pureRun P (Sem.program fun p => (k p).bind f) = _
    simp only [pureRun]
    exact pureRun_bind f (k P)
  | .load .. => rfl
  | .store .. => rfl
  | .new .. => rfl
  | .shape .. => rfl
  | .freeze .. => rfl
  | .frozen .. => rfl
  | .getObj .. => rfl
  | .setObj .. => rfl
  | .choose .. => rfl
  | .sys .. => rfl
  | .mark .. => rfl
  | .halt .. => rfl
def tellAt (es : List MapEntry) (i : Nat) : Option (Nat × Value) → Option (Nat × Value)
  | some (j, _) => some (j, ((es[j - i]?).map (·.val)).getD .nilIface)
  | none => none
theorem tellAt_succ {en : MapEntry} {es : List MapEntry} {i : Nat} {r : Option (Nat × Value)} (h : ∀ j v, r = some (j, v) → i + 1 ≤ j) : tellAt (en :: es) i r = tellAt es (i + 1) r := by
  cases r with
  | none => rfl
  | some p =>
    obtain ⟨j, v⟩ := p
    have := h j v rfl
    simp only [tellAt]
    rw [show j - i = (j - (i + 1)) + 1 by omega]
    simp
theorem findNow_keys (kind : TypeDesc) (k : Value) : ∀ (es : List MapEntry) (i : Nat),
    (∀ r, Instr.findNow kind k (keysOf es) i = some r → Instr.findNow kind k es i = some (tellAt es i r) ∧ ∀ j v, r = some (j, v) → i ≤ j ∧ j < i + es.length) ∧
    (Instr.findNow kind k (keysOf es) i = none → Instr.findNow kind k es i = none)
  | [], i => by
    constructor
    · intro r h
      simp [keysOf, Instr.findNow] at h
      subst h
      exact ⟨rfl, fun j v h => by cases h⟩
    · intro h; simp [keysOf, Instr.findNow] at h
  | en :: es, i => by
    have ih := findNow_keys kind k es (i + 1)
    simp only [keysOf, List.map_cons, Instr.findNow] at ih ⊢
    cases hs : Instr.sameNow kind k en.key with
    | none => exact ⟨fun r h => by simp at h, fun _ => rfl⟩
    | some b =>
      cases b with
      | true =>
        refine ⟨fun r h => ?_, fun h => by simp at h⟩
        simp only [Option.some.injEq] at h; subst h
        refine ⟨by simp [tellAt], fun j v h => ?_⟩
        simp at h
        simp; omega
      | false =>
        refine ⟨fun r h => ?_, fun h => ih.2 h⟩
        obtain ⟨h1, h2⟩ := ih.1 r h
        refine ⟨?_, fun j v hj => ?_⟩
        · simp only []
          rw [h1, tellAt_succ (fun j v hj => (h2 j v hj).1)]
        · have := h2 j v hj
          simp; omega
theorem findAsking_keys (kt : TypeId) (k : Value) (w : World) : ∀ (es : List MapEntry) (i : Nat) (r : Option (Nat × Value)),
    pureRun P (Instr.findAsking kt k (keysOf es) i) = some r →
    (Instr.findAsking kt k es i).run P w = .ok (tellAt es i r) w ∧ ∀ j v, r = some (j, v) → i ≤ j ∧ j < i + es.length
  | [], i, r, h => by
    simp only [keysOf, List.map_nil, Instr.findAsking] at h
    have : r = none := by
      have h' : pureRun P (Sem.pure (none : Option (Nat × Value))) = some r := h
      simpa [pureRun] using h'.symm
    subst this
    exact ⟨rfl, fun j v h => by cases h⟩
  | en :: es, i, r, h => by
    simp only [keysOf, List.map_cons, Instr.findAsking] at h ⊢
    rw [pureRun_bind] at h
    cases hq : pureRun P (Op.equal kt k en.key) with
    | none => simp [hq] at h
    | some b =>
      simp only [hq, Option.bind_some] at h
      simp only [Sem.run_bind, pureRun_sound P _ _ hq w, Result.andThen_ok]
      cases b with
      | true =>
        simp only [if_true] at h ⊢
        have h' : pureRun P (Sem.pure (some (i, Value.nilIface))) = some r := h
        simp only [pureRun, Option.some.injEq] at h'
        subst h'
        refine ⟨by simp [tellAt], fun j v h => ?_⟩
        simp at h; simp; omega
      | false =>
        simp only [Bool.false_eq_true, if_false] at h ⊢
        obtain ⟨h1, h2⟩ := findAsking_keys kt k w es (i + 1) r h
        refine ⟨by rw [h1, tellAt_succ (fun j v hj => (h2 j v hj).1)], fun j v hj => ?_⟩
        have := h2 j v hj
        simp; omega
theorem findKey_keys {kt : TypeId} {k : Value} {es : List MapEntry} {r : Option (Nat × Value)} (h : pureRun P (Instr.findKey kt k (keysOf es)) = some r) (w : World) :
    (Instr.findKey kt k es).run P w = .ok (tellAt es 0 r) w ∧ ∀ j v, r = some (j, v) → j < es.length := by
  simp only [Instr.findKey] at h ⊢
  rw [pureRun_bind] at h
  cases hu : pureRun P (underlying kt) with
  | none => simp [hu] at h
  | some d =>
    simp only [hu, Option.bind_some] at h
    simp only [Sem.run_bind, pureRun_sound P _ _ hu w, Result.andThen_ok]
    obtain ⟨hf1, hf2⟩ := findNow_keys d k es 0
    cases hn : Instr.findNow d k (keysOf es) 0 with
    | none =>
      rw [hn] at h
      rw [hf2 hn]
      obtain ⟨h1, h2⟩ := findAsking_keys (P := P) kt k w es 0 r h
      exact ⟨h1, fun j v hj => by have := h2 j v hj; omega⟩
    | some q =>
      rw [hn] at h
      have h' : pureRun P (Sem.pure q) = some r := h
      simp only [pureRun, Option.some.injEq] at h'
      subst h'
      obtain ⟨h1, h2⟩ := hf1 q hn
      rw [h1]
      exact ⟨rfl, fun j v hj => by have := h2 j v hj; omega⟩
theorem keys_same {es : List MapEntry} {ces : Array MapEntry} (hsz : ces.size = es.length)
    (hc : ∀ (i : Nat) (en : MapEntry), es[i]? = some en → ∃ cen : MapEntry, ces[i]? = some cen ∧ flat en.key = true ∧ cen.key = en.key ∧ cen.born = en.born ∧ VR e A.next en.val cen.val) :
    keysOf ces.toList = keysOf es := by
  unfold keysOf
  apply List.ext_getElem?
  intro i
  rw [List.getElem?_map, List.getElem?_map]
  cases hi : es[i]? with
  | none =>
    have : ces.toList.length ≤ i := by
      have := List.getElem?_eq_none_iff.1 hi
      simp; omega
    simp [List.getElem?_eq_none this]
  | some en =>
    obtain ⟨cen, h1, _, h2, h3, _⟩ := hc i en hi
    have h1' : ces.toList[i]? = some cen := by simpa using h1
    rw [h1']
    simp [h2, h3]
theorem find_sound {kt : TypeId} {k : Value} {es : List MapEntry} {ces : Array MapEntry} {r : Option Nat} (hsz : ces.size = es.length)
    (hc : ∀ (i : Nat) (en : MapEntry), es[i]? = some en → ∃ cen : MapEntry, ces[i]? = some cen ∧ flat en.key = true ∧ cen.key = en.key ∧ cen.born = en.born ∧ VR e A.next en.val cen.val)
    (h : aFind P kt k es = some r) (w : World) :
    (Instr.findKey kt k ces.toList).run P w = .ok (r.map fun i => (i, ((ces[i]?).map (·.val)).getD .nilIface)) w ∧ ∀ i, r = some i → i < es.length := by
  unfold aFind at h
  have hk := keys_same (e := e) (A := A) hsz hc
  rw [← hk] at h
  split at h
  · rename_i i v hp
    simp only [Option.some.injEq] at h; subst h
    obtain ⟨h1, h2⟩ := findKey_keys hp w
    have := h2 i v rfl
    refine ⟨by rw [h1]; simp [tellAt], fun j hj => ?_⟩
    simp at hj; subst hj
    simp at this; omega
  · rename_i hp
    simp only [Option.some.injEq] at h; subst h
    obtain ⟨h1, _⟩ := findKey_keys hp w
    exact ⟨by rw [h1]; rfl, fun j hj => by cases hj⟩
  · cases h
theorem keyOk_sound {emp : Bool} {kt : TypeId} {k k' : Value} (h : aKeyOk P emp kt k = true) (hk : VR e A.next k k') :
    k' = k ∧ flat k = true ∧ ∀ w, (Instr.checkKey emp 10000 kt k).run P w = .ok () w := by
  unfold aKeyOk at h
  simp only [Bool.and_eq_true] at h
  refine ⟨VR.of_flat h.1 hk, h.1, fun w => ?_⟩
  have h2 := h.2
  split at h2
  · rename_i u hu
    exact pureRun_sound P _ _ hu w
  · cases h2
theorem lookup_sound (hi : Inv e A w) {t : TypeId} {x x' k k' v : Value} {ok : Bool} (h : aLookup P A t x k ok = some v) (hx : VR e A.next x x') (hk : VR e A.next k k') :
    OkV P e A w (Instr.lookup t x' k' ok) v A := by
  unfold aLookup at h
  split at h
  · rename_i kt vt hu
    split at h
    · rename_i es hes
      split at h
      · rename_i hkey
        obtain ⟨rfl, hkf, hck⟩ := keyOk_sound hkey hk
        have hent : ∃ ces : Array MapEntry, ces.size = es.length ∧
            (∀ (i : Nat) (en : MapEntry), es[i]? = some en → ∃ cen : MapEntry, ces[i]? = some cen ∧ flat en.key = true ∧ cen.key = en.key ∧ cen.born = en.born ∧ VR e A.next en.val cen.val) ∧
            ((x' = .map none ∧ ces = #[]) ∨ ∃ r clock, x' = .map (some r) ∧ w.heap[r]? = some (.map ces clock)) := by
          split at hes
          · simp only [Option.some.injEq] at hes; subst hes
            exact ⟨#[], rfl, fun i en h => by simp at h, .inl ⟨nil_map_of hx, rfl⟩⟩
          · rename_i B
            split at hes
            · rename_i es2 clock hB
              simp only [Option.some.injEq] at hes; subst hes
              obtain ⟨_, hx'⟩ := some_map_of hx
              obtain ⟨ces, hb, hsz, hc⟩ := map_at hi hB
              exact ⟨ces, hsz, hc, .inr ⟨_, _, hx', hb⟩⟩
            · cases hes
          · cases hes
        obtain ⟨ces, hsz, hc, hrun⟩ := hent
        have hemp : ces.isEmpty = es.isEmpty := by
          rw [Bool.eq_iff_iff]; simp [Array.isEmpty_iff, List.isEmpty_iff, ← Array.size_eq_zero_iff, ← List.length_eq_zero_iff, hsz]
        split at h
        · rename_i i hf
          obtain ⟨hfind, hlt⟩ := find_sound hsz hc hf w
          split at h
          · rename_i en hen
            simp only [Option.some.injEq] at h; subst h
            obtain ⟨cen, g1, g2, g3, g4, g5⟩ := hc i en hen
            refine OkV.same hi (v' := if ok then .tuple #[cen.val, .bool true] else cen.val) ?_ ?_
            · rw [← hemp] at hck
              rcases hrun with ⟨rfl, rfl⟩ | ⟨r, clock, rfl, hb⟩
              · simp at hsz
                have := hlt i rfl
                omega
              · simp only [Instr.lookup, Sem.run_bind, run_under hu, Result.andThen_ok, getObj_run hb (by simp), Sem.run_pure, hck w, hfind, Option.map_some, g1, Option.getD_some]
            · cases ok with
              | true => exact .tuple (.cons g5 (.cons (.flat rfl) .nil))
              | false => exact g5
          · cases h
        · rename_i hf
          obtain ⟨hfind, _⟩ := find_sound hsz hc hf w
          split at h
          · rename_i z hz
            split at h
            · rename_i hzf
              simp only [Option.some.injEq] at h; subst h
              refine OkV.same hi (v' := if ok then .tuple #[z, .bool false] else z) ?_ ?_
              · rw [← hemp] at hck
                rcases hrun with ⟨rfl, rfl⟩ | ⟨r, clock, rfl, hb⟩
                · simp only [Instr.lookup, Sem.run_bind, run_under hu, Result.andThen_ok, Sem.run_pure, hck w, hfind, Option.map_none, run_zero hz]
                · simp only [Instr.lookup, Sem.run_bind, run_under hu, Result.andThen_ok, getObj_run hb (by simp), Sem.run_pure, hck w, hfind, Option.map_none, run_zero hz]
              · cases ok with
                | true => exact .tuple (.cons (.flat hzf) (.cons (.flat rfl) .nil))
                | false => exact .flat hzf
            · cases h
          · cases h
        · cases h
      · cases h
    · cases h
  · cases h
end Go.Dp
