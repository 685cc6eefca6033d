/- Proved here: ProdSame tells true, of a function with code and of one without. Conditions: two variables of the library hold what they hold. -/
import Derived.Test.YtpifpihfoaalgaaGreatDoorSameWake
import Derived.Test.YtpifpihfoaalgaaGreatDoorSameCode
set_option linter.unusedVariables false
set_option linter.unusedSimpArgs false
namespace Go.Proofs
open Go Go.Dp
theorem Tryz.A0_start {m : Int} {w : World} (hm : w.cell? ⟨4, 0, none⟩ = some (.int .i64 m))
    (hT : ∀ c : Nat, c < 256 → w.cell? ⟨3, c, none⟩ = some (.int .u8 (if Lib.isSp (UInt8.ofNat c) then 1 else 0))) : Start0 (Tryz.A0 m) w where
  ro := rfl
  next := rfl
  obj := fun B o hB0 => by
    have hB : ((Trie.leaf.set 3 (some (AObj.cells ascTab 0 false))).set 4 (some (.cells [.int .i64 m] 0 false))).get B = some o := hB0
    clear hB0
    rw [Trie.get_set, Trie.get_set, Trie.get_leaf] at hB
    split at hB
    · rename_i h4
      subst h4
      simp only [Option.some.injEq] at hB
      subst hB
      refine ⟨by decide, _, _, _, rfl, rfl, ?_⟩
      intro i v hv
      cases i with
      | zero =>
        simp only [List.getElem?_cons_zero, Option.some.injEq] at hv
        subst hv; exact hm
      | succ i => simp at hv
    · split at hB
      · rename_i h3
        subst h3
        simp only [Option.some.injEq] at hB
        subst hB
        refine ⟨by decide, ascCell 0, (List.range' 1 255).map ascCell, 0, ?_, ?_, ?_⟩
        · have : ascTab = ascCell 0 :: (List.range' 1 255).map ascCell := by
            rw [ascTab, List.range_eq_range']
            rfl
          rw [this]
        · rw [List.all_eq_true]
          intro v hv
          rcases List.mem_cons.1 hv with rfl | hv
          · rfl
          · obtain ⟨c, _, rfl⟩ := List.mem_map.1 hv
            rfl
        · intro i v hv
          have e : ascCell 0 :: (List.range' 1 255).map ascCell = (List.range 256).map ascCell := by
            rw [List.range_eq_range']; rfl
          rw [e, List.getElem?_map] at hv
          rcases Nat.lt_or_ge i 256 with hi | hi
          · rw [List.getElem?_range hi] at hv
            simp only [Option.map_some, Option.some.injEq] at hv
            subst hv
            exact hT i hi
          · rw [List.getElem?_eq_none (by simpa using hi)] at hv
            cases hv
      · cases hB
theorem Tryz.awake_calls {m : Int} {w : World} (hm : w.cell? ⟨4, 0, none⟩ = some (.int .i64 m))
    (hT : ∀ c : Nat, c < 256 → w.cell? ⟨3, c, none⟩ = some (.int .u8 (if Lib.isSp (UInt8.ofNat c) then 1 else 0))) :
    CallsTo Tryz.prog 14 #[] w fun v' w' => v' = .bool true ∧ Kept w w' :=
  start_true Tryz.prims_ok (by kernel_rfl) (by kernel_rfl) (Tryz.A0_start hm hT) (Tryz.awake_run m)
end Go.Proofs
namespace Go.Proofs
open Go Go.Dp Go.Dp.Tr
inductive Trust where
  | nil | all | none
def Trust.val : Trust → Value
  | .nil => .nilFunc
  | .all => .func (.func 16) ⟨[]⟩ ⟨[]⟩
  | .none => .func (.func 13) ⟨[]⟩ ⟨[]⟩
def trustV : Value → Option Trust
  | .nilFunc => some .nil
  | .func (.func f) ⟨[]⟩ ⟨[]⟩ => match Nat.beq f 16 with
    | true => some .all
    | false => match Nat.beq f 13 with
      | true => some .none
      | false => Option.none
  | _ => Option.none
theorem trustV_ok {v : Value} {t : Trust} (h : trustV v = some t) : v = t.val := by
  unfold trustV at h
  split at h
  · simp only [Option.some.injEq] at h; subst h; rfl
  · split at h
    · rename_i hf
      have := Nat.eq_of_beq_eq_true hf
      subst this
      simp only [Option.some.injEq] at h
      subst h; rfl
    · split at h
      · rename_i hf
        have := Nat.eq_of_beq_eq_true hf
        subst this
        simp only [Option.some.injEq] at h
        subst h; rfl
      · cases h
  · cases h
noncomputable def equalS (t : Trust) (g : Fun1) (cs : List Value) : Bool := Trust.rec (motive := fun _ => Bool) false (rightF g cs) (rightF g cs && Tr.qiLt (idxN cs g.o g.len) (Int.ofNat 0)) t
noncomputable def sameF (a b : Fun1) : Bool := @decide (b.name = a.name ∧ b.params = a.params ∧ b.regs = a.regs ∧ b.frame = a.frame ∧ b.len = a.len) (Classical.propDecidable _)
theorem sameF_ok {a b : Fun1} (h : sameF a b = true) : b = g2 a b.B b.o b.cap := by
  have := @of_decide_eq_true _ (Classical.propDecidable _) h
  obtain ⟨n, p, r, f, B, o, l, c⟩ := b
  obtain ⟨h1, h2, h3, h4, h5⟩ := this
  simp only at h1 h2 h3 h4 h5
  subst h1 h2 h3 h4 h5
  rfl
theorem sameF_mk (a : Fun1) (C u c : Nat) : sameF a (g2 a C u c) = true := @decide_eq_true _ (Classical.propDecidable _) ⟨rfl, rfl, rfl, rfl, rfl⟩
noncomputable def equalQ (args : List Value) (A : AS) (K : Value → AS → Tree) : Tree := match args with
  | [f, g, t, n] => match fnV f, fnV g, trustV t, intOf n with
    | some a, some b, some t, some _ => cellsQ A a.B fun cs _ _ => cellsQ A b.B fun ds _ _ =>
        .node (sameF a b && (okC cs a.o a.len && (okC ds b.o a.len && (sameC cs ds a.o b.o a.len && Nat.ble (Nat.succ a.len) Tr.loopMost)))) (K (.bool (equalS t a cs)) A) (.fail 350)
    | _, _, _, _ => .fail 351
  | _ => .fail 352
theorem equalQ_ok {args : List Value} {A : AS} {K : Value → AS → Tree} {R : Value × AS} (h : Tree.eval (equalQ args A K) = some R) :
    ∃ (g : Fun1) (C u cap' : Nat) (t : Trust) (fuel : Int) (cs ds : List Value) (z zd : Nat) (e ed : Bool), args = [.agg ⟨g.cells⟩, .agg ⟨(g2 g C u cap').cells⟩, t.val, .int .i64 fuel] ∧ A.get g.B = some (.cells cs z e) ∧ A.get C = some (.cells ds zd ed) ∧
      okC cs g.o g.len = true ∧ okC ds u g.len = true ∧ sameC cs ds g.o u g.len = true ∧ Nat.ble (Nat.succ g.len) Tr.loopMost = true ∧ Tree.eval (K (.bool (equalS t g cs)) A) = some R := by
  unfold equalQ at h
  split at h
  · rename_i f g t n
    cases hf : fnV f with
    | none => rw [hf] at h; cases h
    | some a =>
      cases hg : fnV g with
      | none => rw [hf, hg] at h; cases h
      | some b =>
        cases ht : trustV t with
        | none => rw [hf, hg, ht] at h; cases h
        | some t' =>
          cases hn : intOf n with
          | none => rw [hf, hg, ht, hn] at h; cases h
          | some fuel =>
            rw [hf, hg, ht, hn] at h
            obtain ⟨cs, z, e, h1, h⟩ := cellsQ_ok h
            obtain ⟨ds, zd, ed, h2, h⟩ := cellsQ_ok h
            obtain ⟨h3, h4⟩ := node_ok h
            simp only [Bool.and_eq_true] at h3
            obtain ⟨k0, k1, k2, k3, k4⟩ := h3
            have hb := sameF_ok k0
            exact ⟨a, b.B, b.o, b.cap, t', fuel, cs, ds, z, zd, e, ed, by rw [fnV_ok hf, fnV_ok hg, trustV_ok ht, intOf_ok hn, ← hb], h1, h2, k1, k2, k3, k4, h4⟩
  · cases h
theorem equalQ_mk {g : Fun1} {C u cap' : Nat} {t : Trust} {fuel : Int} {cs ds : List Value} {z zd : Nat} {e ed : Bool} {A : AS} {K : Value → AS → Tree} (h1 : A.get g.B = some (.cells cs z e)) (h2 : A.get C = some (.cells ds zd ed))
    (hc : okC cs g.o g.len = true) (hd : okC ds u g.len = true) (hs : sameC cs ds g.o u g.len = true) (hl : Nat.ble (Nat.succ g.len) Tr.loopMost = true) :
    Tree.eval (equalQ [.agg ⟨g.cells⟩, .agg ⟨(g2 g C u cap').cells⟩, t.val, .int .i64 fuel] A K) = Tree.eval (K (.bool (equalS t g cs)) A) := by
  have : equalQ [.agg ⟨g.cells⟩, .agg ⟨(g2 g C u cap').cells⟩, t.val, .int .i64 fuel] A K = cellsQ A g.B fun cs _ _ => cellsQ A (g2 g C u cap').B fun ds _ _ =>
        .node (sameF g (g2 g C u cap') && (okC cs g.o g.len && (okC ds (g2 g C u cap').o g.len && (sameC cs ds g.o (g2 g C u cap').o g.len && Nat.ble (Nat.succ g.len) Tr.loopMost)))) (K (.bool (equalS t g cs)) A) (.fail 350) := by
    cases t <;> rfl
  rw [this, cellsQ_mk h1, cellsQ_mk (B := (g2 g C u cap').B) h2, node_mk]
  show (sameF g (g2 g C u cap') && (okC cs g.o g.len && (okC ds u g.len && (sameC cs ds g.o u g.len && Nat.ble (Nat.succ g.len) Tr.loopMost)))) = true
  rw [sameF_mk, hc, hd, hs, hl]; rfl
noncomputable def equalTP : TP where
  q := equalQ
  ok := fun args A K R h => by
    obtain ⟨g, C, u, cap', t, fuel, cs, ds, z, zd, e, ed, rfl, h1, h2, hc, hd, hs, hl, h4⟩ := equalQ_ok h
    exact ⟨_, A, (equalQ_mk h1 h2 hc hd hs hl).trans rfl, h4⟩
theorem f12_at : PrimAt Tryz.prog 12 (fun args A => Tree.eval (equalTP.q args A .ret)) := by
  refine prim_run prims2_ok (by kernel_rfl) (by kernel_rfl) (n := 20) fun args A A' v h => ?_
  obtain ⟨g, C, u, cap', t, fuel, cs, ds, z, zd, e, ed, rfl, h1, h2, hc, hd, hs, hl, h4⟩ := equalQ_ok (K := .ret) h
  have h4 : some (Value.bool (equalS t g cs), A) = some (v, A') := h4
  simp only [Option.some.injEq, Prod.mk.injEq] at h4
  obtain ⟨rfl, rfl⟩ := h4
  refine ⟨rfl, rfl, fun hdom => ?_⟩
  have k : ∀ {B o}, A.get B = some o → Has A.fix B o := fun {B o} h => ⟨by show Tr.hget A.heap B = _; rw [Tr.hget_eq]; exact h, hdom _ _ h⟩
  cases t with
  | nil => exact f12_nil g C u cap' fuel cs ds z zd e ed A.fix (k h1) (k h2) hc hd hs hl (Nat.le_refl _)
  | all => exact f12_all g C u cap' fuel cs ds z zd e ed A.fix (k h1) (k h2) hc hd hs hl (Nat.le_refl _)
  | none => exact f12_none g C u cap' fuel cs ds z zd e ed A.fix (k h1) (k h2) hc hd hs hl (Nat.le_refl _)
noncomputable def awkOk (A : AS) : Bool := @decide (∃ m z e z' e', A.get 3 = some (.cells ascTab z e) ∧ A.get 4 = some (.cells [.int .i64 m] z' e')) (Classical.propDecidable _)
noncomputable def awakeQ (args : List Value) (A : AS) (K : Value → AS → Tree) : Tree := match args with
  | [] => .node (awkOk A) (K (.bool true) A) (.fail 360)
  | _ => .fail 361
theorem awakeQ_ok {args : List Value} {A : AS} {K : Value → AS → Tree} {R : Value × AS} (h : Tree.eval (awakeQ args A K) = some R) : args = [] ∧ awkOk A = true ∧ Tree.eval (K (.bool true) A) = some R := by
  unfold awakeQ at h
  split at h
  · obtain ⟨h1, h2⟩ := node_ok h
    exact ⟨rfl, h1, h2⟩
  · cases h
noncomputable def awakeTP : TP where
  q := awakeQ
  ok := fun args A K R h => by
    obtain ⟨rfl, h1, h2⟩ := awakeQ_ok h
    refine ⟨_, A, ?_, h2⟩
    show Tree.eval (.node (awkOk A) (.ret (.bool true) A) (.fail 360)) = _
    rw [node_mk h1]; rfl
theorem f14_at : PrimAt Tryz.prog 14 (fun args A => Tree.eval (awakeTP.q args A .ret)) := by
  refine prim_kept fun args A A' v h => ?_
  obtain ⟨rfl, h1, h2⟩ := awakeQ_ok (K := .ret) h
  have h2 : some (Value.bool true, A) = some (v, A') := h2
  simp only [Option.some.injEq, Prod.mk.injEq] at h2
  obtain ⟨rfl, rfl⟩ := h2
  refine ⟨rfl, rfl, fun e w args' hi hg ha => ?_⟩
  obtain ⟨m, z, x, z', x', k3, k4⟩ := @of_decide_eq_true _ (Classical.propDecidable _) h1
  have e0 : args' = #[] := by
    obtain ⟨l⟩ := args'
    have ha : VRs e A.next [] l := ha
    cases ha; rfl
  subst e0
  refine Tryz.awake_calls (glob_cell (i := 0) hi hg (by decide) k4 rfl rfl) fun c hc => ?_
  refine glob_cell hi hg (by decide) k3 (v := ascCell c) ?_ rfl
  rw [ascTab, List.getElem?_map, List.getElem?_range hc]; rfl
noncomputable def prims3 (f : FuncId) : Option TP :=
  match Nat.beq f 9 with
  | true => some (codeTP smallF)
  | false => match Nat.beq f 17 with
    | true => some (codeTP rightF)
    | false => match Nat.beq f 24 with
      | true => some cloneTP
      | false => match Nat.beq f 12 with
        | true => some equalTP
        | false => match Nat.beq f 14 with
          | true => some awakeTP
          | false => none
theorem prims3_ok : PrimOk Tryz.prog (primOf prims3) := primOk_of fun f q hq => by
  unfold prims3 at hq
  split at hq
  · rename_i hf
    have := Nat.eq_of_beq_eq_true hf
    subst this
    simp only [Option.some.injEq] at hq
    subst hq; exact f9_at
  · split at hq
    · rename_i hf
      have := Nat.eq_of_beq_eq_true hf
      subst this
      simp only [Option.some.injEq] at hq
      subst hq; exact f17_at
    · split at hq
      · rename_i hf
        have := Nat.eq_of_beq_eq_true hf
        subst this
        simp only [Option.some.injEq] at hq
        subst hq; exact f24_at
      · split at hq
        · rename_i hf
          have := Nat.eq_of_beq_eq_true hf
          subst this
          simp only [Option.some.injEq] at hq
          subst hq; exact f12_at
        · split at hq
          · rename_i hf
            have := Nat.eq_of_beq_eq_true hf
            subst this
            simp only [Option.some.injEq] at hq
            subst hq; exact f14_at
          · cases hq
end Go.Proofs
namespace Go.Proofs
open Go Go.Dp Go.Dp.Tr
theorem pre8 (g : Fun1) (fuel : Int) (cs : List Value) (z : Nat) (e : Bool) (K kr : Tr.KK' (N8 (N8 Value))) (kx : Nat → Tr.KK' (N8 (N8 Value))) (A : AS) :
  run (.obj (.cells g.cells 0 false) (.lit 1 (.obj (.cells cs z e) (.must (.split (.must .stop) (.obj (.cells g.cells 0 false) (.lit 1 .stop)))))))
    ((Tr.kcode' Tryz.prog (std O64) 54 8 false (Code.seq ((bd Tryz.f8).at [0]) (Code.seq ((bd Tryz.f8).at [1, 0]) (Code.seq ((bd Tryz.f8).at [1, 1, 0]) ((bd Tryz.f8).at [1, 1, 1, 0, 0]))))).f (Tr.kc Tryz.prog prims3 20) K kr kx (st (std O64) [(1, .int .i64 fuel), (0, .agg ⟨g.cells⟩)] (std O64).nil) A) =
  (.obj (Tr.hget (box A g.cells).heap A.next) (.cells g.cells 0 false) (.obj (Tr.hget (box A g.cells).heap g.B) (.cells cs z e) (.ite (okC cs g.o g.len) (.ite (Bool.not (smallF g cs))
 (.ite (awkOk (box A g.cells)) (.tree (kr (st (std O64) [(0, .agg (Array.mk g.cells)), (1, .int .i64 fuel), (2, .pointer (some (Addr.mk A.next 0 none))), (4, .bool true), (9, .agg (Array.mk g.cells)), (10, .bool (smallF g cs)), (11, .bool !smallF g cs), (12, .bool true)] (std O64).nil) (box A g.cells))) .bad)
 (.obj (Tr.hget (box A g.cells).heap A.next) (.cells g.cells 0 false) (.tree (K (st (std O64) [(0, .agg (Array.mk g.cells)), (1, .int .i64 fuel), (2, .pointer (some (Addr.mk A.next 0 none))), (4, .bool false), (5, .bool false), (9, .agg (Array.mk g.cells)), (10, .bool (smallF g cs)), (11, .bool !smallF g cs), (13, .pointer (some (Addr.mk A.next (Nat.add 0 4) none))), (14, .slice (some (Addr.mk g.B g.o none)) g.len g.cap), (15, .int .i64 (Int.ofNat g.len)), (16, .int .i64 (Int.ofNat 0))] (std O64).nil) (box A g.cells))))) .bad))) := by kernel_rfl
theorem round8 (E : Tr.KE) (g : Fun1) (x : Ins) (fuel : Int) (b : Bool) (p i : Nat) (cs : List Value) (z : Nat) (e : Bool) (t : (N8 (N8 Value))) (K kr : Tr.KK' (N8 (N8 Value))) (kx : Nat → Tr.KK' (N8 (N8 Value))) (A : AS) :
  run (.split (.must (.obj (.cells cs z e) (.given x.cells (.lit 1 (.obj (.cells zeroIns.cells 0 false) (.must (.split (.must (.obj (.cells x.cells 0 false) (.lit 1 (.must (.mustn (.must .stop)))))) (.mustn (.mustn (.must (.must .stop))))))))))) .stop)
    ((Tr.kcode' Tryz.prog (std O64) 54 8 false ((bd Tryz.f8).at [1, 1, 1, 0, 1, 0, 0])).f E K kr kx (st (std O64) [(1, .int .i64 fuel), (2, .pointer (some ⟨p, 0, none⟩)), (5, .bool b), (14, .slice (some ⟨g.B, g.o, none⟩) g.len g.cap), (15, .int .i64 (Int.ofNat g.len)), (16, .int .i64 (Int.ofNat i))] t) A) =
  (.ite (Tr.qiLt (Int.ofNat i) (Int.ofNat g.len))
 (.ite (Nat.ble (Nat.succ i) g.len) (.obj (Tr.hget A.heap g.B) (.cells cs z e) (.given cs (Nat.add g.o (Nat.mul i 15)) 15 x.cells (.obj (Tr.hget (box A zeroIns.cells).heap A.next) (.cells zeroIns.cells 0 false) (.ite (Nat.ble A.ro A.next) (.ite (Tr.qWant (.bool b) false)
 (.ite (Tr.qWant (.bool b) false) (.obj (Tr.hget (plus A x.cells).heap A.next) (.cells x.cells 0 false) (.ite (Tr.qWant (.bool b) false) (.ite b .bad (.ite (qIn64 (Tr.qiAdd (Int.ofNat i) (Int.ofNat 1))) (.tree (K (st (std O64) [(5, .bool (Tr.qiEq x.kind (Int.ofNat 8))), (7, .pointer (some (Addr.mk A.next 0 none))), (16, .int .i64 (Tr.qiAdd (Int.ofNat i) (Int.ofNat 1))), (17, .bool (Tr.qiLt (Int.ofNat i) (Int.ofNat g.len))), (18, .pointer (some (Addr.mk g.B (Nat.add g.o (Nat.mul i 15)) none))), (19, .agg (Array.mk x.cells)), (20, .bool b), (21, .bool b), (22, .pointer (some (Addr.mk A.next (Nat.add 0 0) none))), (23, .int .i64 x.kind), (24, .bool (Tr.qiEq x.kind (Int.ofNat 8))), (25, .bool (Tr.qiEq x.kind (Int.ofNat 8))), (26, .int .i64 (Tr.qiAdd (Int.ofNat i) (Int.ofNat 1)))] (st (std O64) [(1, .int .i64 fuel), (2, .pointer (some ⟨p, 0, none⟩)), (5, .bool b), (14, .slice (some ⟨g.B, g.o, none⟩) g.len g.cap), (15, .int .i64 (Int.ofNat g.len)), (16, .int .i64 (Int.ofNat i))] t)) (plus A x.cells))) .bad)) .bad)) .bad)
 (.ite (Tr.qWant (.bool b) false) .bad (.ite (Tr.qWant (.bool b) false) .bad (.ite b (.ite (qIn64 (Tr.qiAdd (Int.ofNat i) (Int.ofNat 1))) (.tree (K (st (std O64) [(5, .bool true), (7, .pointer (some (Addr.mk A.next 0 none))), (16, .int .i64 (Tr.qiAdd (Int.ofNat i) (Int.ofNat 1))), (17, .bool (Tr.qiLt (Int.ofNat i) (Int.ofNat g.len))), (18, .pointer (some (Addr.mk g.B (Nat.add g.o (Nat.mul i 15)) none))), (19, .agg (Array.mk x.cells)), (20, .bool b), (21, .bool b), (22, Value.tuple (Array.mk [])), (23, Value.tuple (Array.mk [])), (24, Value.tuple (Array.mk [])), (25, .bool true), (26, .int .i64 (Tr.qiAdd (Int.ofNat i) (Int.ofNat 1)))] (st (std O64) [(1, .int .i64 fuel), (2, .pointer (some ⟨p, 0, none⟩)), (5, .bool b), (14, .slice (some ⟨g.B, g.o, none⟩) g.len g.cap), (15, .int .i64 (Int.ofNat g.len)), (16, .int .i64 (Int.ofNat i))] t)) (plus A x.cells))) .bad) .bad)))) .bad)))) .bad)
 (.tree (kx 0 (st (std O64) [(17, .bool (Tr.qiLt (Int.ofNat i) (Int.ofNat g.len)))] (st (std O64) [(1, .int .i64 fuel), (2, .pointer (some ⟨p, 0, none⟩)), (5, .bool b), (14, .slice (some ⟨g.B, g.o, none⟩) g.len g.cap), (15, .int .i64 (Int.ofNat g.len)), (16, .int .i64 (Int.ofNat i))] t)) A))) := by kernel_rfl
theorem tail8 (g : Fun1) (fuel : Int) (b : Bool) (p : Nat) (cs : List Value) (z : Nat) (e : Bool) (t : (N8 (N8 Value))) (K kr : Tr.KK' (N8 (N8 Value))) (kx : Nat → Tr.KK' (N8 (N8 Value))) (A : AS) :
  run (.obj (.cells g.cells 0 false) (.lit 1 (.obj (.cells cs z e) (.must (.must (.obj (.cells g.cells 0 false) (.lit 1 (.must (.obj (.cells cs z e) (.must (.must (.must (.opt (ANext.value (.agg ⟨g.cells⟩), (cl5 A g cs)) (.must (.opt (ANext.value (.agg ⟨g.cells⟩), A) (.must (.must (.obj (.cells cs z e) (.obj (.cells (cut cs g.o g.len) 15 false) (.must (.must (.lit 1 (.split (.must (.obj (.cells g.cells 0 false) (.lit 1 (.must (.must (.obj (.cells g.cells 0 false) (.lit 1 (.must (.must (.must (.obj (.cells cs z e) (.obj (.cells cs z e) (.must (.must (.mustn (.lit 1 (.split (.obj (.cells g.cells 0 false) (.lit 1 (.must (.obj (.cells g.cells 0 false) (.lit 1 (.must (.must (.obj (.cells cs z e) (.obj (.cells cs z e) (.must (.must (.must (.lit 1 (.mustn (.split (.must (.must .stop)) (.mustn .stop)))))))))))))))) (.mustn (.mustn (.mustn (.mustn (.mustn (.must (.lit 1 (.must (.lit 1 .stop)))))))))))))))))))))))))) (.mustn (.mustn (.mustn (.must (.lit 1 .stop))))))))))))))))))))))))))))
    ((Tr.kcode' Tryz.prog (std O64) 54 8 false ((bd Tryz.f8).at [1, 1, 1, 1])).f (Tr.kc Tryz.prog prims3 20) K kr kx (st (std O64) [(1, .int .i64 fuel), (2, .pointer (some ⟨p, 0, none⟩)), (5, .bool b)] t) A) =
  (.obj (Tr.hget A.heap p) (.cells g.cells 0 false) (.obj (Tr.hget A.heap g.B) (.cells cs z e) (.ite (okC cs g.o g.len) (.ite (Nat.ble (Nat.succ p) A.next && true) (.obj (Tr.hget A.heap p) (.cells g.cells 0 false) (.ite (Nat.ble (Nat.succ g.B) A.next && true && true) (.obj (Tr.hget A.heap g.B) (.cells cs z e) (.ite (okC cs g.o g.len && (Nat.ble g.len 100000 && (Nat.ble A.ro A.next && Nat.ble (Nat.succ g.B) A.next))) (.ite (Nat.ble A.next (Nat.succ (Nat.succ (Nat.succ A.next)))) (.ite (Nat.ble p (Nat.succ (Nat.succ A.next)) && true) (.opt ((aLoad Tryz.prog (cl5 A g cs) 24 (.pointer (some ⟨p, 0, none⟩))).map fun v => (ANext.value v, (cl5 A g cs))) (ANext.value (.agg ⟨g.cells⟩), (cl5 A g cs)) (.ite (Nat.ble (Nat.succ p) A.next && true) (.opt ((aLoad Tryz.prog A 24 (.pointer (some ⟨p, 0, none⟩))).map fun v => (ANext.value v, A)) (ANext.value (.agg ⟨g.cells⟩), A) (.ite (eqV 4 (.agg (Array.mk g.cells)) (.agg (Array.mk g.cells))) (.ite (Nat.ble g.B (Nat.succ (Nat.succ A.next)) && true && (Nat.ble A.next A.next && true && true)) (.obj (Tr.hget (cl5 A g cs).heap g.B) (.cells cs z e) (.obj (Tr.hget (cl5 A g cs).heap (Nat.succ (Nat.succ A.next))) (.cells (cut cs g.o g.len) 15 false) (.ite (sameF g (Fun1.mk g.name g.params g.regs g.frame (Nat.succ (Nat.succ A.next)) 0 g.len g.len) && (okC cs g.o g.len && (okC (cut cs g.o g.len) 0 g.len && (sameC cs (cut cs g.o g.len) g.o 0 g.len && Nat.ble (Nat.succ g.len) 100000000)))) (.ite (Nat.ble (Nat.succ (Nat.succ (Nat.succ A.next))) (Nat.succ (Nat.succ (Nat.succ A.next)))) (.ite (Tr.qWant (.bool (Bool.not (equalS Trust.all g cs == rightF g cs))) false)
 (.ite (Nat.ble p (Nat.succ (Nat.succ A.next)) && true) (.obj (Tr.hget (cl5 A g cs).heap p) (.cells g.cells 0 false) (.ite (Tr.qWant (.bool (Bool.not (equalS Trust.all g cs == rightF g cs))) false) (.ite (Nat.ble p (Nat.succ (Nat.succ A.next)) && true) (.obj (Tr.hget (cl5 A g cs).heap p) (.cells g.cells 0 false) (.ite (Tr.qWant (.bool (Bool.not (equalS Trust.all g cs == rightF g cs))) false) (.ite (Tr.qWant (.bool (Bool.not (equalS Trust.all g cs == rightF g cs))) false) (.ite (Nat.ble g.B (Nat.succ (Nat.succ A.next)) && true && (Nat.ble g.B (Nat.succ (Nat.succ A.next)) && true && true)) (.obj (Tr.hget (cl5 A g cs).heap g.B) (.cells cs z e) (.obj (Tr.hget (cl5 A g cs).heap g.B) (.cells cs z e) (.ite (sameF g g && (okC cs g.o g.len && (okC cs g.o g.len && (sameC cs cs g.o g.o g.len && Nat.ble (Nat.succ g.len) 100000000)))) (.ite (Nat.ble (Nat.succ (Nat.succ (Nat.succ A.next))) (Nat.succ (Nat.succ (Nat.succ A.next)))) (.ite (Bool.not (equalS Trust.all g cs == rightF g cs)) .bad (.ite (Tr.qWant (.bool b) false)
 (.obj (Tr.hget (cl5 A g cs).heap p) (.cells g.cells 0 false) (.ite (Tr.qWant (.bool b) false) (.obj (Tr.hget (cl5 A g cs).heap p) (.cells g.cells 0 false) (.ite (Tr.qWant (.bool b) false) (.ite (Tr.qWant (.bool b) false) (.obj (Tr.hget (cl5 A g cs).heap g.B) (.cells cs z e) (.obj (Tr.hget (cl5 A g cs).heap g.B) (.cells cs z e) (.ite (sameF g g && (okC cs g.o g.len && (okC cs g.o g.len && (sameC cs cs g.o g.o g.len && Nat.ble (Nat.succ g.len) 100000000)))) (.ite (Tr.qWant (.bool b) false) (.ite (Tr.qWant (.bool b) false) (.ite b .bad (.ite (Tr.qWant (.bool (equalS Trust.none g cs == rightF g cs)) true)
 (.ite (awkOk (cl5 A g cs)) (.ite (equalS Trust.none g cs == rightF g cs) (.tree (kr (st (std O64) [(4, .bool true), (8, .bool (rightF g cs)), (27, .agg (Array.mk g.cells)), (28, .bool (rightF g cs)), (29, .agg (Array.mk g.cells)), (30, .agg (Array.mk g.cells)), (31, .agg (Array.mk (cloneF A g).cells)), (32, .int .i64 fuel), (33, .bool (equalS Trust.all g cs)), (34, .bool (rightF g cs)), (35, .bool !equalS Trust.all g cs == rightF g cs), (36, .bool !equalS Trust.all g cs == rightF g cs), (37, .agg (Array.mk g.cells)), (38, .agg (Array.mk g.cells)), (39, .int .i64 fuel), (40, .bool (equalS Trust.nil g cs)), (41, .bool (equalS Trust.nil g cs)), (42, .bool b), (43, .bool b), (44, .agg (Array.mk g.cells)), (45, .agg (Array.mk g.cells)), (46, .int .i64 fuel), (47, .bool (equalS Trust.none g cs)), (48, .bool (rightF g cs)), (49, .bool (equalS Trust.none g cs == rightF g cs)), (50, .bool (equalS Trust.none g cs == rightF g cs)), (51, .bool (equalS Trust.none g cs == rightF g cs)), (52, .bool true), (53, .bool true)] (st (std O64) [(1, .int .i64 fuel), (2, .pointer (some ⟨p, 0, none⟩)), (5, .bool b)] t)) (cl5 A g cs))) .bad) .bad)
 (.ite (equalS Trust.none g cs == rightF g cs) .bad (.tree (kr (st (std O64) [(4, .bool false), (8, .bool (rightF g cs)), (27, .agg (Array.mk g.cells)), (28, .bool (rightF g cs)), (29, .agg (Array.mk g.cells)), (30, .agg (Array.mk g.cells)), (31, .agg (Array.mk (cloneF A g).cells)), (32, .int .i64 fuel), (33, .bool (equalS Trust.all g cs)), (34, .bool (rightF g cs)), (35, .bool !equalS Trust.all g cs == rightF g cs), (36, .bool !equalS Trust.all g cs == rightF g cs), (37, .agg (Array.mk g.cells)), (38, .agg (Array.mk g.cells)), (39, .int .i64 fuel), (40, .bool (equalS Trust.nil g cs)), (41, .bool (equalS Trust.nil g cs)), (42, .bool b), (43, .bool b), (44, .agg (Array.mk g.cells)), (45, .agg (Array.mk g.cells)), (46, .int .i64 fuel), (47, .bool (equalS Trust.none g cs)), (48, .bool (rightF g cs)), (49, .bool (equalS Trust.none g cs == rightF g cs)), (50, .bool (equalS Trust.none g cs == rightF g cs)), (51, .bool (equalS Trust.none g cs == rightF g cs)), (52, Value.tuple (Array.mk [])), (53, .bool false)] (st (std O64) [(1, .int .i64 fuel), (2, .pointer (some ⟨p, 0, none⟩)), (5, .bool b)] t)) (cl5 A g cs)))))) .bad) .bad) .bad))) .bad) .bad)) .bad))
 (.ite (Tr.qWant (.bool b) false) .bad (.ite (Tr.qWant (.bool b) false) .bad (.ite (Tr.qWant (.bool b) false) .bad (.ite (Tr.qWant (.bool b) false) .bad (.ite (Tr.qWant (.bool b) false) .bad (.ite b (.ite (awkOk (cl5 A g cs)) (.tree (kr (st (std O64) [(4, .bool true), (8, .bool (rightF g cs)), (27, .agg (Array.mk g.cells)), (28, .bool (rightF g cs)), (29, .agg (Array.mk g.cells)), (30, .agg (Array.mk g.cells)), (31, .agg (Array.mk (cloneF A g).cells)), (32, .int .i64 fuel), (33, .bool (equalS Trust.all g cs)), (34, .bool (rightF g cs)), (35, .bool !equalS Trust.all g cs == rightF g cs), (36, .bool !equalS Trust.all g cs == rightF g cs), (37, .agg (Array.mk g.cells)), (38, .agg (Array.mk g.cells)), (39, .int .i64 fuel), (40, .bool (equalS Trust.nil g cs)), (41, .bool (equalS Trust.nil g cs)), (42, .bool b), (43, .bool b), (44, Value.tuple (Array.mk [])), (45, Value.tuple (Array.mk [])), (46, Value.tuple (Array.mk [])), (47, Value.tuple (Array.mk [])), (48, Value.tuple (Array.mk [])), (49, Value.tuple (Array.mk [])), (50, .bool true), (51, .bool true), (52, .bool true), (53, .bool true)] (st (std O64) [(1, .int .i64 fuel), (2, .pointer (some ⟨p, 0, none⟩)), (5, .bool b)] t)) (cl5 A g cs))) .bad) .bad)))))))) .bad) .bad))) .bad) .bad) .bad)) .bad) .bad)) .bad)
 (.ite (Tr.qWant (.bool (Bool.not (equalS Trust.all g cs == rightF g cs))) false) .bad (.ite (Tr.qWant (.bool (Bool.not (equalS Trust.all g cs == rightF g cs))) false) .bad (.ite (Tr.qWant (.bool (Bool.not (equalS Trust.all g cs == rightF g cs))) false) .bad (.ite (Bool.not (equalS Trust.all g cs == rightF g cs)) (.tree (kr (st (std O64) [(4, .bool false), (8, .bool (rightF g cs)), (27, .agg (Array.mk g.cells)), (28, .bool (rightF g cs)), (29, .agg (Array.mk g.cells)), (30, .agg (Array.mk g.cells)), (31, .agg (Array.mk (cloneF A g).cells)), (32, .int .i64 fuel), (33, .bool (equalS Trust.all g cs)), (34, .bool (rightF g cs)), (35, .bool !equalS Trust.all g cs == rightF g cs), (36, .bool !equalS Trust.all g cs == rightF g cs), (37, Value.tuple (Array.mk [])), (38, Value.tuple (Array.mk [])), (39, Value.tuple (Array.mk [])), (40, Value.tuple (Array.mk [])), (41, .bool true)] (st (std O64) [(1, .int .i64 fuel), (2, .pointer (some ⟨p, 0, none⟩)), (5, .bool b)] t)) (cl5 A g cs))) .bad))))) .bad) .bad))) .bad) .bad)) .bad)) .bad) .bad) .bad)) .bad)) .bad) .bad))) := by kernel_rfl
theorem mid3_eq {F : Type} {P : Program} {O : FO F} {N : Nat} {fid : FuncId} {rd : Bool} {E : Tr.KE} {kn kr : Tr.KK' F} {kx : Nat → Tr.KK' F} {t : F} {A : AS} {a b c d l e : Code} : (Tr.kcode' P O N fid rd (.seq a (.seq b (.seq c (.seq (.seq d l) e))))).f E kn kr kx t A =
    (Tr.kcode' P O N fid rd (.seq a (.seq b (.seq c d)))).f E (fun t A => (Tr.kcode' P O N fid rd l).f E ((Tr.kcode' P O N fid rd e).f E kn kr kx) kr kx t A) kr kx t A := by
  simp only [seq_fun]
theorem call8 (g : Fun1) (fuel : Int) (A : AS) : (Tr.kc Tryz.prog prims3 21).call 8 [.agg ⟨g.cells⟩, .int .i64 fuel] A .ret =
    (Tr.kcode' Tryz.prog (std O64) 54 8 false (bd Tryz.f8)).f (Tr.kc Tryz.prog prims3 20) ((Tr.kret Tryz.prog (std O64) [.tmp 4]).f .ret) ((Tr.kret Tryz.prog (std O64) [.tmp 4]).f .ret)
      (fun _ _ _ => Tr.failAt 102) (st (std O64) [(1, .int .i64 fuel), (0, .agg ⟨g.cells⟩)] (std O64).nil) A := by
  have e : ∀ E args K, (Tr.kfn Tryz.prog prims3 8).f E args A K = (Tr.kbodyN Tryz.prog (std O64) 54 8 [.tmp 4] (bd Tryz.f8)).f E args A K := by
    intro E args K
    rw [show Tr.kfn Tryz.prog prims3 8 = Tr.kbodyN Tryz.prog (std O64) 54 8 [.tmp 4] (bd Tryz.f8) from by kernel_rfl]
  rw [kc_call, e, bodyN_eq]
  exact enter2 (N := 52) (fun _ => rfl) (fun _ => rfl)
theorem code8 : bd Tryz.f8 = .seq ((bd Tryz.f8).at [0]) (.seq ((bd Tryz.f8).at [1, 0]) (.seq ((bd Tryz.f8).at [1, 1, 0]) (.seq (.seq ((bd Tryz.f8).at [1, 1, 1, 0, 0]) (.block 0 (.loop ((bd Tryz.f8).at [1, 1, 1, 0, 1, 0, 0])))) ((bd Tryz.f8).at [1, 1, 1, 1])))) := by kernel_rfl
noncomputable def anyCall (cs : List Value) (o i : Nat) : Bool := (List.range i).any (isCall cs o)
theorem any_succ (cs : List Value) (o i : Nat) : anyCall cs o (i + 1) = (anyCall cs o i || isCall cs o i) := by
  unfold anyCall
  rw [List.range_succ, List.any_append]
  simp
theorem Has.cl5 {A : AS} {j : Nat} {o : AObj} (h : Has A j o) (g : Fun1) (cs : List Value) : Has (cl5 A g cs) j o := by
  have hb := h.2
  refine ⟨?_, by show j < Nat.succ (Nat.succ (Nat.succ A.next)); omega⟩
  simp (disch := omega) only [Go.Proofs.cl5, cl4, cl3, cl2, cl1, boxZ, Go.Proofs.box, hget_ne]
  exact h.1
theorem cl5_new {A : AS} (g : Fun1) (cs : List Value) : Tr.hget (cl5 A g cs).heap (Nat.succ (Nat.succ A.next)) = some (.cells (cut cs g.o g.len) 15 false) := by
  simp (disch := omega) only [cl5, cl4, cl3, hget_ne, hget_same]
theorem awk_mk {A : AS} {m : Int} {z z' : Nat} {e e' : Bool} (h3 : Has A 3 (.cells ascTab z e)) (h4 : Has A 4 (.cells [.int .i64 m] z' e')) : awkOk A = true :=
  @decide_eq_true _ (Classical.propDecidable _) ⟨m, z, e, z', e', by show A.heap.get 3 = _; rw [← Tr.hget_eq]; exact h3.1, by show A.heap.get 4 = _; rw [← Tr.hget_eq]; exact h4.1⟩
theorem ble_mk {n m : Nat} (h : n ≤ m) : Nat.ble n m = true := Nat.ble_eq_true_of_le h
theorem agg24 : tAgg Tryz.prog 24 = some true := by kernel_rfl
theorem size24 : tSize Tryz.prog 24 = some 5 := by kernel_rfl
theorem load_eq {A : AS} {p : Nat} {g : Fun1} {z : Nat} {e : Bool} (h : Tr.hget A.heap p = some (.cells g.cells z e)) : aLoad Tryz.prog A 24 (.pointer (some ⟨p, 0, none⟩)) = some (.agg ⟨g.cells⟩) := by
  have h : A.get p = some (.cells g.cells z e) := by show A.heap.get p = _; rw [← Tr.hget_eq]; exact h
  have hp : piece g.cells 0 5 = some g.cells := rfl
  simp only [aLoad, h, agg24, size24, hp, Option.map_some]
theorem eqOpt_self (a : Option Addr) : eqOpt a a = true := by
  cases a with
  | none => rfl
  | some x =>
    obtain ⟨B, o, sp⟩ := x
    cases sp <;> simp [eqOpt]
theorem eqV_fn (g : Fun1) : eqV 4 (.agg (Array.mk g.cells)) (.agg (Array.mk g.cells)) = true := by
  have ha : ∀ a : Option Addr, eqOpt a a = true := eqOpt_self
  simp only [eqV, eqVs, Fun1.cells, ha, Nat.beq_refl, decide_true, Bool.and_self]
theorem sameF_self (g : Fun1) : sameF g g = true := sameF_mk g g.B g.o g.cap
theorem sameC_self (cs : List Value) (o n : Nat) : sameC cs cs o o n = true := sameC_mk fun _ _ => rfl
theorem f8_loop (E : Tr.KE) (g : Fun1) (fuel : Int) (cs : List Value) (z : Nat) (e : Bool) (hc : okC cs g.o g.len = true) (p : Nat) {m : Int} {z3 z4 : Nat} {e3 e4 : Bool} (kx : Nat → Tr.KK' (N8 (N8 Value)))
    (hk : ∀ t A, t = st (std O64) [(1, .int .i64 fuel), (2, .pointer (some ⟨p, 0, none⟩)), (5, .bool (anyCall cs g.o g.len))] t → Has A p (.cells g.cells 0 false) → Has A g.B (.cells cs z e) → Has A 3 (.cells ascTab z3 e3) → Has A 4 (.cells [.int .i64 m] z4 e4) → A.ro ≤ A.next →
      Tells (.bool true) (kx 0 t A).eval) :
    ∀ n k t A, k < n → (∃ i, i + k = g.len ∧ t = st (std O64) [(1, .int .i64 fuel), (2, .pointer (some ⟨p, 0, none⟩)), (5, .bool (anyCall cs g.o i)), (14, .slice (some ⟨g.B, g.o, none⟩) g.len g.cap), (15, .int .i64 (Int.ofNat g.len)), (16, .int .i64 (Int.ofNat i))] t ∧
        Has A p (.cells g.cells 0 false) ∧ Has A g.B (.cells cs z e) ∧ Has A 3 (.cells ascTab z3 e3) ∧ Has A 4 (.cells [.int .i64 m] z4 e4) ∧ A.ro ≤ A.next) →
      Tells (.bool true) (kloop (Tr.kcode' Tryz.prog (std O64) 54 8 false ((bd Tryz.f8).at [1, 1, 1, 0, 1, 0, 0])).f E ((Tr.kret Tryz.prog (std O64) [.tmp 4]).f .ret) kx n t A).eval := by
  refine loop_tells (I := fun k t A => ∃ i, i + k = g.len ∧ t = st (std O64) [(1, .int .i64 fuel), (2, .pointer (some ⟨p, 0, none⟩)), (5, .bool (anyCall cs g.o i)), (14, .slice (some ⟨g.B, g.o, none⟩) g.len g.cap), (15, .int .i64 (Int.ofNat g.len)), (16, .int .i64 (Int.ofNat i))] t ∧
        Has A p (.cells g.cells 0 false) ∧ Has A g.B (.cells cs z e) ∧ Has A 3 (.cells ascTab z3 e3) ∧ Has A 4 (.cells [.int .i64 m] z4 e4) ∧ A.ro ≤ A.next) ?_
  rintro k t A K ⟨i, hi, ht, hp, hB, h3, h4, hro⟩ ih
  rw [ht]
  refine tells_of (round8 E g (insN cs g.o i) fuel (anyCall cs g.o i) p i cs z e t K _ kx A) ?_
  simp only [Out.tells]
  refine ⟨fun hlt => ?_, fun hge => ?_⟩
  · have hlt : i < g.len := by
      rw [qiLt_d] at hlt
      simpa using hlt
    have h1 : Nat.ble (Nat.succ i) g.len = true := Nat.ble_eq_true_of_le hlt
    have h2 : Nat.ble A.ro A.next = true := Nat.ble_eq_true_of_le hro
    simp only [h1, h2, hB.1, okC_at hc hlt, (box_has A zeroIns.cells).1, (plus_has A _).1, in64 (Nat.lt_of_lt_of_le hlt (okC_le hc)), wantT, wantF, true_and, forall_const, Bool.true_eq_false, Bool.false_eq_true, false_implies, and_true]
    cases hb : anyCall cs g.o i
    · have e5 : anyCall cs g.o (i + 1) = isCall cs g.o i := by rw [any_succ, hb]; rfl
      simp only [h1, h2, hB.1, okC_at hc hlt, (box_has A zeroIns.cells).1, (plus_has A _).1, in64 (Nat.lt_of_lt_of_le hlt (okC_le hc)), Bool.not_true, Bool.not_false, true_and, forall_const, Bool.true_eq_false, Bool.false_eq_true, false_implies, and_true]
      refine ih (g.len - (i + 1)) _ _ (by omega) ⟨i + 1, by omega, ?_, hp.plus _, hB.plus _, h3.plus _, h4.plus _, plus_ro hro _⟩
      rw [e5]
      kernel_rfl
    · have e5 : anyCall cs g.o (i + 1) = true := by rw [any_succ, hb]; rfl
      simp only [h1, h2, hB.1, okC_at hc hlt, (box_has A zeroIns.cells).1, (plus_has A _).1, in64 (Nat.lt_of_lt_of_le hlt (okC_le hc)), Bool.not_true, Bool.not_false, true_and, forall_const, Bool.true_eq_false, Bool.false_eq_true, false_implies, and_true]
      refine ih (g.len - (i + 1)) _ _ (by omega) ⟨i + 1, by omega, ?_, hp.plus _, hB.plus _, h3.plus _, h4.plus _, plus_ro hro _⟩
      rw [e5]
      kernel_rfl
  · have hge : g.len ≤ i := by
      rw [qiLt_d] at hge
      simpa using hge
    have : i = g.len := by omega
    subst this
    exact hk _ A (by kernel_rfl) hp hB h3 h4 hro
theorem f8_tail (g : Fun1) (fuel : Int) (cs : List Value) (z : Nat) (e : Bool) (hc : okC cs g.o g.len = true) (hs : smallF g cs = true) (p : Nat) {m : Int} {z3 z4 : Nat} {e3 e4 : Bool} (kn : Tr.KK' (N8 (N8 Value))) (kx : Nat → Tr.KK' (N8 (N8 Value)))
    (t : N8 (N8 Value)) (A : AS) (ht : t = st (std O64) [(1, .int .i64 fuel), (2, .pointer (some ⟨p, 0, none⟩)), (5, .bool (anyCall cs g.o g.len))] t) (hp : Has A p (.cells g.cells 0 false)) (hB : Has A g.B (.cells cs z e)) (h3 : Has A 3 (.cells ascTab z3 e3)) (h4 : Has A 4 (.cells [.int .i64 m] z4 e4)) (hro : A.ro ≤ A.next) :
    Tells (.bool true) ((Tr.kcode' Tryz.prog (std O64) 54 8 false ((bd Tryz.f8).at [1, 1, 1, 1])).f (Tr.kc Tryz.prog prims3 20) kn ((Tr.kret Tryz.prog (std O64) [.tmp 4]).f .ret) kx t A).eval := by
  have hl : g.len ≤ 60 := by
    unfold smallF smallP at hs
    simp only [Bool.and_eq_true, Bool.not_eq_true', qiLt_d, decide_eq_false_iff_not, Int.ofNat_eq_natCast] at hs
    omega
  rw [ht]
  refine tells_of (tail8 g fuel (anyCall cs g.o g.len) p cs z e t kn _ kx A) ?_
  have k1 := hp.2
  have k2 := hB.2
  have e1 : equalS .all g cs = rightF g cs := rfl
  have e2 : anyCall cs g.o g.len = false → equalS .none g cs = rightF g cs := by
    intro h
    have : idxN cs g.o g.len = Int.negSucc 0 := idxN_none fun j hj => by
      unfold anyCall at h
      rw [List.any_eq_false] at h
      simpa using h j (List.mem_range.2 hj)
    show (rightF g cs && Tr.qiLt (idxN cs g.o g.len) (Int.ofNat 0)) = _
    rw [this]
    exact Bool.and_true _
  have e3' : awkOk (cl5 A g cs) = true := awk_mk (h3.cl5 g cs) (h4.cl5 g cs)
  have e4' : sameC cs (cut cs g.o g.len) g.o 0 g.len = true := sameC_mk fun j hj => cut_insN hc hj
  have e5 : sameF g (Fun1.mk g.name g.params g.regs g.frame (Nat.succ (Nat.succ A.next)) 0 g.len g.len) = true := sameF_mk g _ _ _
  simp (disch := omega) only [Out.tells, hp.1, hB.1, (hp.cl5 g cs).1, (hB.cl5 g cs).1, cl5_new, hc, cut_ok hc, sameF_self, sameC_self, e1, e3', e4', e5, eqV_fn, load_eq hp.1, load_eq (hp.cl5 g cs).1, ble_mk, Option.map_some, beq_self_eq_true, wantT, wantF,
    Bool.not_true, Bool.not_false, Bool.and_true, Bool.and_self, true_and, and_true, forall_const, Bool.true_eq_false, Bool.false_eq_true, false_implies, implies_true]
  cases hb : anyCall cs g.o g.len
  · rw [e2 hb]
    simp only [beq_self_eq_true, Bool.not_true, Bool.not_false, true_and, and_true, forall_const, Bool.true_eq_false, Bool.false_eq_true, false_implies, implies_true]
    exact ret_tells (by kernel_rfl)
  · simp only [beq_self_eq_true, Bool.not_true, Bool.not_false, true_and, and_true, forall_const, Bool.true_eq_false, Bool.false_eq_true, false_implies, implies_true]
    exact ret_tells (by kernel_rfl)
theorem f8_tells (g : Fun1) (fuel : Int) (cs : List Value) (z : Nat) (e : Bool) (hc : okC cs g.o g.len = true) {m : Int} {z3 z4 : Nat} {e3 e4 : Bool} (A : AS)
    (hB : Has A g.B (.cells cs z e)) (h3 : Has A 3 (.cells ascTab z3 e3)) (h4 : Has A 4 (.cells [.int .i64 m] z4 e4)) (hro : A.ro ≤ A.next) :
    Tells (.bool true) ((Tr.kc Tryz.prog prims3 21).call 8 [.agg ⟨g.cells⟩, .int .i64 fuel] A .ret).eval := by
  rw [call8, code8, mid3_eq]
  refine tells_of (pre8 g fuel cs z e _ _ _ A) ?_
  have k2 := hB.2
  simp only [Out.tells, (box_has A g.cells).1, (hB.box _).1, hc, awk_mk (h3.box g.cells) (h4.box g.cells), true_and, forall_const, Bool.true_eq_false, Bool.false_eq_true, false_implies, and_true]
  cases hs : smallF g cs
  · simp only [Bool.not_true, Bool.not_false, true_and, forall_const, Bool.true_eq_false, Bool.false_eq_true, false_implies, and_true]
    exact ret_tells (by kernel_rfl)
  · simp only [Bool.not_true, Bool.not_false, true_and, forall_const, Bool.true_eq_false, Bool.false_eq_true, false_implies, and_true]
    have hl : g.len < Tr.loopMost := by
      have h := hs
      unfold smallF smallP at h
      simp only [Bool.and_eq_true, Bool.not_eq_true', qiLt_d, decide_eq_false_iff_not, Int.ofNat_eq_natCast] at h
      show g.len < 100000000
      omega
    rw [mid_loop]
    refine f8_loop _ g fuel cs z e hc A.next (z3 := z3) (e3 := e3) (z4 := z4) (e4 := e4) (m := m) _ ?_ _ g.len _ _ hl ⟨0, by omega, ?_, box_has A _, hB.box _, h3.box _, h4.box _, box_ro hro _⟩
    · intro t A' ht hp hB' h3' h4' hro'
      exact f8_tail g fuel cs z e hc hs A.next _ _ t A' ht hp hB' h3' h4' hro'
    · have : anyCall cs g.o 0 = false := rfl
      rw [this]
      refine st_self ?_
      kernel_rfl
end Go.Proofs
namespace Go.Proofs
open Go Go.Dp Go.Dp.Tr
structure Fun0 where
  name : List UInt8
  params : Int
  regs : Int
  frame : Int
def Fun0.cells (f : Fun0) : List Value := [.string ⟨⟨f.name⟩⟩, .int .i64 f.params, .int .i64 f.regs, .int .i64 f.frame, .slice none 0 0]
def nilS : Value → Bool
  | .slice none 0 0 => true
  | _ => false
theorem nilS_ok {v : Value} (h : nilS v = true) : v = .slice none 0 0 := by
  unfold nilS at h
  split at h
  · rfl
  · cases h
def nilOf : List Value → Option Fun0
  | [nm, p, r, f, s] => match strOf nm, intOf p, intOf r, intOf f, nilS s with
    | some nm, some p, some r, some f, true => some ⟨nm, p, r, f⟩
    | _, _, _, _, _ => none
  | _ => none
theorem nilOf_ok {l : List Value} {f : Fun0} (h : nilOf l = some f) : l = f.cells := by
  unfold nilOf at h
  split at h
  · split at h
    · rename_i e1 e2 e3 e4 e5
      simp only [Option.some.injEq] at h
      subst h
      rw [strOf_ok e1, intOf_ok e2, intOf_ok e3, intOf_ok e4, nilS_ok e5]
      rfl
    · cases h
  · cases h
def nilV (v : Value) : Option Fun0 := match aggOf v with
  | some l => nilOf l
  | none => none
theorem nilV_ok {v : Value} {f : Fun0} (h : nilV v = some f) : v = .agg ⟨f.cells⟩ := by
  unfold nilV at h
  split at h
  · rename_i l hl; rw [aggOf_ok hl, nilOf_ok h]
  · cases h
noncomputable def nilQ (S : Fun0 → Bool) (args : List Value) (A : AS) (K : Value → AS → Tree) : Tree := match args with
  | [f] => match nilV f with
    | some g => K (.bool (S g)) A
    | none => .fail 371
  | _ => .fail 372
theorem nilQ_ok {S : Fun0 → Bool} {args : List Value} {A : AS} {K : Value → AS → Tree} {R : Value × AS} (h : Tree.eval (nilQ S args A K) = some R) : ∃ g : Fun0, args = [.agg ⟨g.cells⟩] ∧ Tree.eval (K (.bool (S g)) A) = some R := by
  unfold nilQ at h
  split at h
  · rename_i f
    cases hf : nilV f with
    | none => rw [hf] at h; cases h
    | some g => rw [hf] at h; exact ⟨g, by rw [nilV_ok hf], h⟩
  · cases h
noncomputable def nilTP (S : Fun0 → Bool) : TP where
  q := nilQ S
  ok := fun args A K R h => by
    obtain ⟨g, rfl, h1⟩ := nilQ_ok h
    exact ⟨_, A, rfl, h1⟩
theorem nil_flat (g : Fun0) : flat (.agg ⟨g.cells⟩) = true := rfl
theorem nil_at {S : Fun0 → Bool} {f : FuncId} (hb : hasBody Tryz.prog f = true) (ht : ∀ g : Fun0, Tells (.bool (S g)) ((Tr.kc Tryz.prog noTP 20).call f [.agg ⟨g.cells⟩] A2 .ret).eval) :
    PrimAt Tryz.prog f (fun args A => Tree.eval ((nilTP S).q args A .ret)) := by
  refine prim_kept fun args A A' v hp => ?_
  obtain ⟨g, rfl, h⟩ := nilQ_ok (K := .ret) hp
  have h : some (Value.bool (S g), A) = some (v, A') := h
  simp only [Option.some.injEq, Prod.mk.injEq] at h
  obtain ⟨rfl, rfl⟩ := h
  refine ⟨rfl, rfl, fun e w args' _ _ ha => ?_⟩
  obtain ⟨l'⟩ := args'
  have ha : VRs e A.next [.agg ⟨g.cells⟩] l' := ha
  cases ha with
  | cons h1 h =>
    cases h
    have e1 := VR.of_flat (nil_flat g) h1
    subst e1
    exact calls_kept noTP_ok (by kernel_rfl) hb (A2_inv 64 w) (A2_glob _) (.cons (.flat (nil_flat g)) .nil) A2_ro rfl (ht g)
noncomputable def smallN (g : Fun0) : Bool := !(Tr.qiLt (Int.ofNat 50) (Int.ofNat (Tr.llen g.name))) && !(Tr.qiLt (Int.ofNat 40) g.regs && !(Tr.qiLt (Int.ofNat 4096) g.regs))
noncomputable def never (_ : Fun0) : Bool := false
end Go.Proofs
namespace Go.Proofs
open Go Go.Dp Go.Dp.Tr
theorem nil9 (g : Fun0) :
  run (.lit 2 (.split (.must (.lit 2 (.must (.must (.mustn (.lit 6 (.split (.must (.lit 2 (.must (.lit 1 (.must (.lit 1 (.split .done (.lit 3 .done)))))))) (.mustn (.mustn (.lit 1 (.mustn (.lit 5 .done)))))))))))) (.mustn (.mustn (.mustn (.must (.lit 10 .done)))))))
    ((Tr.kc Tryz.prog noTP 20).call 9 [.agg ⟨g.cells⟩] A2 .ret) =
  (.ite (Tr.qWant (.bool (Tr.qiLt (Int.ofNat 50) (Int.ofNat (Tr.llen g.name)))) false)
 (.ite (Tr.qWant (.bool (Tr.qiLt (Int.ofNat 50) (Int.ofNat (Tr.llen g.name)))) false) (.ite (Tr.qWant (.bool (Tr.qiLt (Int.ofNat 50) (Int.ofNat (Tr.llen g.name)))) false) (.ite (Tr.qWant (.bool (Tr.qiLt (Int.ofNat 50) (Int.ofNat (Tr.llen g.name)))) false) (.ite (Tr.qiLt (Int.ofNat 50) (Int.ofNat (Tr.llen g.name))) .bad (.ite (Tr.qWant (.bool (Tr.qiLt (Int.ofNat 40) g.regs)) true)
 (.ite (Tr.qWant (.bool (Tr.qiLt (Int.ofNat 40) g.regs)) true) (.ite (Tr.qWant (.bool (Tr.qiLt (Int.ofNat 40) g.regs)) true) (.ite (Tr.qiLt (Int.ofNat 40) g.regs) (.ite (Bool.not (Tr.qiLt (Int.ofNat 4096) g.regs))
 (.ret (.bool false))
 (.ret (.bool true))) .bad) .bad) .bad)
 (.ite (Tr.qWant (.bool (Tr.qiLt (Int.ofNat 40) g.regs)) true) .bad (.ite (Tr.qWant (.bool (Tr.qiLt (Int.ofNat 40) g.regs)) true) .bad (.ite (Tr.qiLt (Int.ofNat 40) g.regs) .bad (.ret (.bool true))))))) .bad) .bad) .bad)
 (.ite (Tr.qWant (.bool (Tr.qiLt (Int.ofNat 50) (Int.ofNat (Tr.llen g.name)))) false) .bad (.ite (Tr.qWant (.bool (Tr.qiLt (Int.ofNat 50) (Int.ofNat (Tr.llen g.name)))) false) .bad (.ite (Tr.qWant (.bool (Tr.qiLt (Int.ofNat 50) (Int.ofNat (Tr.llen g.name)))) false) .bad (.ite (Tr.qiLt (Int.ofNat 50) (Int.ofNat (Tr.llen g.name))) (.ret (.bool false)) .bad))))) := by kernel_rfl
theorem nil17 (g : Fun0) :
  run (.lit 2 (.split (.must (.lit 2 (.must (.mustn (.split (.must (.lit 2 (.must (.mustn (.split (.must (.lit 2 (.must (.must (.lit 2 (.must (.mustn (.split (.must (.lit 2 (.must (.mustn (.split (.must (.lit 2 (.must (.mustn (.split (.must (.lit 2 (.must (.mustn (.split (.must (.lit 2 (.must (.must (.mustn (.lit 6 .done)))))) (.mustn (.mustn (.mustn (.must (.lit 6 .done)))))))))) (.mustn (.mustn (.must (.lit 11 .done))))))))) (.mustn (.mustn (.must (.lit 15 .done))))))))) (.mustn (.mustn (.must (.lit 19 .done)))))))))))) (.mustn (.mustn (.mustn (.mustn (.must (.lit 23 .done))))))))))) (.mustn (.mustn (.must (.lit 29 .done))))))))) (.mustn (.mustn (.must (.lit 33 .done))))))
    ((Tr.kc Tryz.prog noTP 20).call 17 [.agg ⟨g.cells⟩] A2 .ret) =
  (.ite (Tr.qWant (.bool (Tr.qiEq (Int.ofNat (Tr.llen g.name)) (Int.ofNat 0))) false)
 (.ite (Tr.qWant (.bool (Tr.qiEq (Int.ofNat (Tr.llen g.name)) (Int.ofNat 0))) false) (.ite (Tr.qWant (.bool (Tr.qiEq (Int.ofNat (Tr.llen g.name)) (Int.ofNat 0))) false) (.ite (Tr.qiEq (Int.ofNat (Tr.llen g.name)) (Int.ofNat 0)) .bad (.ite (Tr.qWant (.bool (Tr.qiLt g.params (Int.ofNat 0))) false)
 (.ite (Tr.qWant (.bool (Tr.qiLt g.params (Int.ofNat 0))) false) (.ite (Tr.qWant (.bool (Tr.qiLt g.params (Int.ofNat 0))) false) (.ite (Tr.qiLt g.params (Int.ofNat 0)) .bad (.ite (Tr.qWant (.bool (Tr.qiLt (Int.ofNat 6) g.params)) false)
 (.ite (Tr.qWant (.bool (Tr.qiLt (Int.ofNat 6) g.params)) false) (.ite (Tr.qWant (.bool (Tr.qiLt (Int.ofNat 6) g.params)) false) (.ite (Tr.qWant (.bool (Tr.qiLt (Int.ofNat 6) g.params)) false) (.ite (Tr.qWant (.bool (Tr.qiLt (Int.ofNat 6) g.params)) false) (.ite (Tr.qiLt (Int.ofNat 6) g.params) .bad (.ite (Tr.qWant (.bool (Tr.qiLt g.regs g.params)) false)
 (.ite (Tr.qWant (.bool (Tr.qiLt g.regs g.params)) false) (.ite (Tr.qWant (.bool (Tr.qiLt g.regs g.params)) false) (.ite (Tr.qiLt g.regs g.params) .bad (.ite (Tr.qWant (.bool (Tr.qiLt (Int.ofNat 4096) g.regs)) false)
 (.ite (Tr.qWant (.bool (Tr.qiLt (Int.ofNat 4096) g.regs)) false) (.ite (Tr.qWant (.bool (Tr.qiLt (Int.ofNat 4096) g.regs)) false) (.ite (Tr.qiLt (Int.ofNat 4096) g.regs) .bad (.ite (Tr.qWant (.bool (Tr.qiLt g.frame (Int.ofNat 0))) false)
 (.ite (Tr.qWant (.bool (Tr.qiLt g.frame (Int.ofNat 0))) false) (.ite (Tr.qWant (.bool (Tr.qiLt g.frame (Int.ofNat 0))) false) (.ite (Tr.qiLt g.frame (Int.ofNat 0)) .bad (.ite (Tr.qWant (.bool (Tr.qiLt (Int.ofNat 4096) g.frame)) false)
 (.ite (Tr.qWant (.bool (Tr.qiLt (Int.ofNat 4096) g.frame)) false) (.ite (Tr.qWant (.bool (Tr.qiLt (Int.ofNat 4096) g.frame)) false) (.ite (Tr.qWant (.bool (Tr.qiLt (Int.ofNat 4096) g.frame)) false) (.ite (Tr.qiLt (Int.ofNat 4096) g.frame) .bad (.ret (.bool false))) .bad) .bad) .bad)
 (.ite (Tr.qWant (.bool (Tr.qiLt (Int.ofNat 4096) g.frame)) false) .bad (.ite (Tr.qWant (.bool (Tr.qiLt (Int.ofNat 4096) g.frame)) false) .bad (.ite (Tr.qWant (.bool (Tr.qiLt (Int.ofNat 4096) g.frame)) false) .bad (.ite (Tr.qiLt (Int.ofNat 4096) g.frame) (.ret (.bool false)) .bad)))))) .bad) .bad)
 (.ite (Tr.qWant (.bool (Tr.qiLt g.frame (Int.ofNat 0))) false) .bad (.ite (Tr.qWant (.bool (Tr.qiLt g.frame (Int.ofNat 0))) false) .bad (.ite (Tr.qiLt g.frame (Int.ofNat 0)) (.ret (.bool false)) .bad))))) .bad) .bad)
 (.ite (Tr.qWant (.bool (Tr.qiLt (Int.ofNat 4096) g.regs)) false) .bad (.ite (Tr.qWant (.bool (Tr.qiLt (Int.ofNat 4096) g.regs)) false) .bad (.ite (Tr.qiLt (Int.ofNat 4096) g.regs) (.ret (.bool false)) .bad))))) .bad) .bad)
 (.ite (Tr.qWant (.bool (Tr.qiLt g.regs g.params)) false) .bad (.ite (Tr.qWant (.bool (Tr.qiLt g.regs g.params)) false) .bad (.ite (Tr.qiLt g.regs g.params) (.ret (.bool false)) .bad))))) .bad) .bad) .bad) .bad)
 (.ite (Tr.qWant (.bool (Tr.qiLt (Int.ofNat 6) g.params)) false) .bad (.ite (Tr.qWant (.bool (Tr.qiLt (Int.ofNat 6) g.params)) false) .bad (.ite (Tr.qWant (.bool (Tr.qiLt (Int.ofNat 6) g.params)) false) .bad (.ite (Tr.qWant (.bool (Tr.qiLt (Int.ofNat 6) g.params)) false) .bad (.ite (Tr.qiLt (Int.ofNat 6) g.params) (.ret (.bool false)) .bad))))))) .bad) .bad)
 (.ite (Tr.qWant (.bool (Tr.qiLt g.params (Int.ofNat 0))) false) .bad (.ite (Tr.qWant (.bool (Tr.qiLt g.params (Int.ofNat 0))) false) .bad (.ite (Tr.qiLt g.params (Int.ofNat 0)) (.ret (.bool false)) .bad))))) .bad) .bad)
 (.ite (Tr.qWant (.bool (Tr.qiEq (Int.ofNat (Tr.llen g.name)) (Int.ofNat 0))) false) .bad (.ite (Tr.qWant (.bool (Tr.qiEq (Int.ofNat (Tr.llen g.name)) (Int.ofNat 0))) false) .bad (.ite (Tr.qiEq (Int.ofNat (Tr.llen g.name)) (Int.ofNat 0)) (.ret (.bool false)) .bad)))) := by kernel_rfl
theorem nil27 (g : Fun0) :
  run (.lit 2 (.split (.must (.lit 2 (.must (.mustn (.split (.must (.lit 2 (.must (.mustn (.split (.must (.lit 2 (.must (.must (.lit 2 (.must (.mustn (.split (.must (.lit 2 (.must (.mustn (.split (.must (.lit 2 (.must (.mustn (.split (.must (.lit 2 (.must (.mustn (.split (.must (.lit 2 (.must (.must (.mustn (.lit 6 .done)))))) (.mustn (.mustn (.mustn (.must (.lit 6 .done)))))))))) (.mustn (.mustn (.must (.lit 11 .done))))))))) (.mustn (.mustn (.must (.lit 15 .done))))))))) (.mustn (.mustn (.must (.lit 19 .done)))))))))))) (.mustn (.mustn (.mustn (.mustn (.must (.lit 23 .done))))))))))) (.mustn (.mustn (.must (.lit 29 .done))))))))) (.mustn (.mustn (.must (.lit 33 .done))))))
    ((Tr.kc Tryz.prog noTP 20).call 27 [.agg ⟨g.cells⟩] A2 .ret) =
  (.ite (Tr.qWant (.bool (Tr.qbyEq g.name [])) false)
 (.ite (Tr.qWant (.bool (Tr.qbyEq g.name [])) false) (.ite (Tr.qWant (.bool (Tr.qbyEq g.name [])) false) (.ite (Tr.qbyEq g.name []) .bad (.ite (Tr.qWant (.bool (Tr.qiLt g.params (Int.ofNat 0))) false)
 (.ite (Tr.qWant (.bool (Tr.qiLt g.params (Int.ofNat 0))) false) (.ite (Tr.qWant (.bool (Tr.qiLt g.params (Int.ofNat 0))) false) (.ite (Tr.qiLt g.params (Int.ofNat 0)) .bad (.ite (Tr.qWant (.bool (Tr.qiLt (Int.ofNat 6) g.params)) false)
 (.ite (Tr.qWant (.bool (Tr.qiLt (Int.ofNat 6) g.params)) false) (.ite (Tr.qWant (.bool (Tr.qiLt (Int.ofNat 6) g.params)) false) (.ite (Tr.qWant (.bool (Tr.qiLt (Int.ofNat 6) g.params)) false) (.ite (Tr.qWant (.bool (Tr.qiLt (Int.ofNat 6) g.params)) false) (.ite (Tr.qiLt (Int.ofNat 6) g.params) .bad (.ite (Tr.qWant (.bool (Tr.qiLt g.regs g.params)) false)
 (.ite (Tr.qWant (.bool (Tr.qiLt g.regs g.params)) false) (.ite (Tr.qWant (.bool (Tr.qiLt g.regs g.params)) false) (.ite (Tr.qiLt g.regs g.params) .bad (.ite (Tr.qWant (.bool (Tr.qiLt (Int.ofNat 4096) g.regs)) false)
 (.ite (Tr.qWant (.bool (Tr.qiLt (Int.ofNat 4096) g.regs)) false) (.ite (Tr.qWant (.bool (Tr.qiLt (Int.ofNat 4096) g.regs)) false) (.ite (Tr.qiLt (Int.ofNat 4096) g.regs) .bad (.ite (Tr.qWant (.bool (Tr.qiLt g.frame (Int.ofNat 0))) false)
 (.ite (Tr.qWant (.bool (Tr.qiLt g.frame (Int.ofNat 0))) false) (.ite (Tr.qWant (.bool (Tr.qiLt g.frame (Int.ofNat 0))) false) (.ite (Tr.qiLt g.frame (Int.ofNat 0)) .bad (.ite (Tr.qWant (.bool (Tr.qiLt (Int.ofNat 4096) g.frame)) false)
 (.ite (Tr.qWant (.bool (Tr.qiLt (Int.ofNat 4096) g.frame)) false) (.ite (Tr.qWant (.bool (Tr.qiLt (Int.ofNat 4096) g.frame)) false) (.ite (Tr.qWant (.bool (Tr.qiLt (Int.ofNat 4096) g.frame)) false) (.ite (Tr.qiLt (Int.ofNat 4096) g.frame) .bad (.ret (.bool false))) .bad) .bad) .bad)
 (.ite (Tr.qWant (.bool (Tr.qiLt (Int.ofNat 4096) g.frame)) false) .bad (.ite (Tr.qWant (.bool (Tr.qiLt (Int.ofNat 4096) g.frame)) false) .bad (.ite (Tr.qWant (.bool (Tr.qiLt (Int.ofNat 4096) g.frame)) false) .bad (.ite (Tr.qiLt (Int.ofNat 4096) g.frame) (.ret (.bool false)) .bad)))))) .bad) .bad)
 (.ite (Tr.qWant (.bool (Tr.qiLt g.frame (Int.ofNat 0))) false) .bad (.ite (Tr.qWant (.bool (Tr.qiLt g.frame (Int.ofNat 0))) false) .bad (.ite (Tr.qiLt g.frame (Int.ofNat 0)) (.ret (.bool false)) .bad))))) .bad) .bad)
 (.ite (Tr.qWant (.bool (Tr.qiLt (Int.ofNat 4096) g.regs)) false) .bad (.ite (Tr.qWant (.bool (Tr.qiLt (Int.ofNat 4096) g.regs)) false) .bad (.ite (Tr.qiLt (Int.ofNat 4096) g.regs) (.ret (.bool false)) .bad))))) .bad) .bad)
 (.ite (Tr.qWant (.bool (Tr.qiLt g.regs g.params)) false) .bad (.ite (Tr.qWant (.bool (Tr.qiLt g.regs g.params)) false) .bad (.ite (Tr.qiLt g.regs g.params) (.ret (.bool false)) .bad))))) .bad) .bad) .bad) .bad)
 (.ite (Tr.qWant (.bool (Tr.qiLt (Int.ofNat 6) g.params)) false) .bad (.ite (Tr.qWant (.bool (Tr.qiLt (Int.ofNat 6) g.params)) false) .bad (.ite (Tr.qWant (.bool (Tr.qiLt (Int.ofNat 6) g.params)) false) .bad (.ite (Tr.qWant (.bool (Tr.qiLt (Int.ofNat 6) g.params)) false) .bad (.ite (Tr.qiLt (Int.ofNat 6) g.params) (.ret (.bool false)) .bad))))))) .bad) .bad)
 (.ite (Tr.qWant (.bool (Tr.qiLt g.params (Int.ofNat 0))) false) .bad (.ite (Tr.qWant (.bool (Tr.qiLt g.params (Int.ofNat 0))) false) .bad (.ite (Tr.qiLt g.params (Int.ofNat 0)) (.ret (.bool false)) .bad))))) .bad) .bad)
 (.ite (Tr.qWant (.bool (Tr.qbyEq g.name [])) false) .bad (.ite (Tr.qWant (.bool (Tr.qbyEq g.name [])) false) .bad (.ite (Tr.qbyEq g.name []) (.ret (.bool false)) .bad)))) := by kernel_rfl
theorem nil9_at : PrimAt Tryz.prog 9 (fun args A => Tree.eval ((nilTP smallN).q args A .ret)) := nil_at (by kernel_rfl) fun g => by
  refine tells_of (nil9 g) ?_
  simp only [Out.tells, wantT, wantF, smallN]
  cases Tr.qiLt (Int.ofNat 50) (Int.ofNat (Tr.llen g.name)) <;> cases Tr.qiLt (Int.ofNat 40) g.regs <;> cases Tr.qiLt (Int.ofNat 4096) g.regs <;> simp
theorem nil17_at : PrimAt Tryz.prog 17 (fun args A => Tree.eval ((nilTP never).q args A .ret)) := nil_at (by kernel_rfl) fun g => by
  refine tells_of (nil17 g) ?_
  simp only [Out.tells, wantT, wantF, never]
  grind (splits := 40)
theorem nil27_at : PrimAt Tryz.prog 27 (fun args A => Tree.eval ((nilTP never).q args A .ret)) := nil_at (by kernel_rfl) fun g => by
  refine tells_of (nil27 g) ?_
  simp only [Out.tells, wantT, wantF, never]
  grind (splits := 40)
end Go.Proofs
namespace Go.Proofs
open Go Go.Dp Go.Dp.Tr
noncomputable def prims6 (f : FuncId) : Option TP :=
  match Nat.beq f 27 with
  | true => some (nilTP never)
  | false => none
theorem prims6_ok : PrimOk Tryz.prog (primOf prims6) := primOk_of fun f q hq => by
  unfold prims6 at hq
  split at hq
  · rename_i hf
    have := Nat.eq_of_beq_eq_true hf
    subst this
    simp only [Option.some.injEq] at hq
    subst hq; exact nil27_at
  · cases hq
end Go.Proofs
namespace Go.Proofs
open Go Go.Dp Go.Dp.Tr
theorem nil12_nil (g : Fun0) (l : List Value) (fuel : Int) (A : AS) :
  run (.obj (.cells [Value.string ⟨⟨g.name⟩⟩, .int .i64 g.params, .int .i64 g.regs, .int .i64 g.frame, .slice none 0 0] 0 false) (.lit 21 .done))
    ((Tr.kc Tryz.prog prims6 20).call 12 [.agg ⟨g.cells⟩, .agg ⟨l⟩, .nilFunc, .int .i64 fuel] A .ret) =
  (.obj (Tr.hget (Tr.hset (Tr.hset A.heap A.next (some (.cells [Value.string ⟨⟨g.name⟩⟩, .int .i64 g.params, .int .i64 g.regs, .int .i64 g.frame, .slice none 0 0] 0 false))) (Nat.succ A.next) (some (.cells l 0 false))) A.next) (.cells [Value.string ⟨⟨g.name⟩⟩, .int .i64 g.params, .int .i64 g.regs, .int .i64 g.frame, .slice none 0 0] 0 false) (.ret (.bool false))) := by kernel_rfl
theorem nil12_all (g : Fun0) (l : List Value) (fuel : Int) (A : AS) :
  run (.obj (.cells [Value.string ⟨⟨g.name⟩⟩, .int .i64 g.params, .int .i64 g.regs, .int .i64 g.frame, .slice none 0 0] 0 false) (.lit 21 .done))
    ((Tr.kc Tryz.prog prims6 20).call 12 [.agg ⟨g.cells⟩, .agg ⟨l⟩, .func (.func 16) ⟨[]⟩ ⟨[]⟩, .int .i64 fuel] A .ret) =
  (.obj (Tr.hget (Tr.hset (Tr.hset A.heap A.next (some (.cells [Value.string ⟨⟨g.name⟩⟩, .int .i64 g.params, .int .i64 g.regs, .int .i64 g.frame, .slice none 0 0] 0 false))) (Nat.succ A.next) (some (.cells l 0 false))) A.next) (.cells [Value.string ⟨⟨g.name⟩⟩, .int .i64 g.params, .int .i64 g.regs, .int .i64 g.frame, .slice none 0 0] 0 false) (.ret (.bool false))) := by kernel_rfl
theorem nil12_none (g : Fun0) (l : List Value) (fuel : Int) (A : AS) :
  run (.obj (.cells [Value.string ⟨⟨g.name⟩⟩, .int .i64 g.params, .int .i64 g.regs, .int .i64 g.frame, .slice none 0 0] 0 false) (.lit 21 .done))
    ((Tr.kc Tryz.prog prims6 20).call 12 [.agg ⟨g.cells⟩, .agg ⟨l⟩, .func (.func 13) ⟨[]⟩ ⟨[]⟩, .int .i64 fuel] A .ret) =
  (.obj (Tr.hget (Tr.hset (Tr.hset A.heap A.next (some (.cells [Value.string ⟨⟨g.name⟩⟩, .int .i64 g.params, .int .i64 g.regs, .int .i64 g.frame, .slice none 0 0] 0 false))) (Nat.succ A.next) (some (.cells l 0 false))) A.next) (.cells [Value.string ⟨⟨g.name⟩⟩, .int .i64 g.params, .int .i64 g.regs, .int .i64 g.frame, .slice none 0 0] 0 false) (.ret (.bool false))) := by kernel_rfl
theorem nil12_tells (g : Fun0) (l : List Value) (t : Trust) (fuel : Int) (A : AS) : Tells (.bool false) ((Tr.kc Tryz.prog prims6 20).call 12 [.agg ⟨g.cells⟩, .agg ⟨l⟩, t.val, .int .i64 fuel] A .ret).eval := by
  have h : Tr.hget (Tr.hset (Tr.hset A.heap A.next (some (.cells g.cells 0 false))) (Nat.succ A.next) (some (.cells l 0 false))) A.next = some (.cells g.cells 0 false) := by
    simp (disch := omega) only [hget_ne, hget_same]
  cases t with
  | nil => exact tells_of (nil12_nil g l fuel A) ⟨h, rfl⟩
  | all => exact tells_of (nil12_all g l fuel A) ⟨h, rfl⟩
  | none => exact tells_of (nil12_none g l fuel A) ⟨h, rfl⟩
noncomputable def nilEqQ (args : List Value) (A : AS) (K : Value → AS → Tree) : Tree := match args with
  | [f, g, t, n] => match nilV f, aggOf g, trustV t, intOf n with
    | some _, some _, some _, some _ => K (.bool false) A
    | _, _, _, _ => .fail 381
  | _ => .fail 382
theorem nilEqQ_ok {args : List Value} {A : AS} {K : Value → AS → Tree} {R : Value × AS} (h : Tree.eval (nilEqQ args A K) = some R) :
    ∃ (g : Fun0) (l : List Value) (t : Trust) (fuel : Int), args = [.agg ⟨g.cells⟩, .agg ⟨l⟩, t.val, .int .i64 fuel] ∧ Tree.eval (K (.bool false) A) = some R := by
  unfold nilEqQ at h
  split at h
  · rename_i f g t n
    cases hf : nilV f with
    | none => rw [hf] at h; cases h
    | some a =>
      cases hg : aggOf g with
      | none => rw [hf, hg] at h; cases h
      | some b =>
        cases ht : trustV t with
        | none => rw [hf, hg, ht] at h; cases h
        | some t' =>
          cases hn : intOf n with
          | none => rw [hf, hg, ht, hn] at h; cases h
          | some fuel =>
            rw [hf, hg, ht, hn] at h
            exact ⟨a, b, t', fuel, by rw [nilV_ok hf, aggOf_ok hg, trustV_ok ht, intOf_ok hn], h⟩
  · cases h
noncomputable def nilEqTP : TP where
  q := nilEqQ
  ok := fun args A K R h => by
    obtain ⟨g, l, t, fuel, rfl, h1⟩ := nilEqQ_ok h
    exact ⟨_, A, by cases t <;> rfl, h1⟩
theorem nil12_at : PrimAt Tryz.prog 12 (fun args A => Tree.eval (nilEqTP.q args A .ret)) := by
  refine prim_run prims6_ok (by kernel_rfl) (by kernel_rfl) (n := 20) fun args A A' v h => ?_
  obtain ⟨g, l, t, fuel, rfl, h4⟩ := nilEqQ_ok (K := .ret) h
  have h4 : some (Value.bool false, A) = some (v, A') := h4
  simp only [Option.some.injEq, Prod.mk.injEq] at h4
  obtain ⟨rfl, rfl⟩ := h4
  exact ⟨rfl, rfl, fun _ => nil12_tells g l t fuel A.fix⟩
noncomputable def prims7 (f : FuncId) : Option TP :=
  match Nat.beq f 9 with
  | true => some (nilTP smallN)
  | false => match Nat.beq f 17 with
    | true => some (nilTP never)
    | false => match Nat.beq f 12 with
      | true => some nilEqTP
      | false => match Nat.beq f 14 with
        | true => some awakeTP
        | false => none
theorem prims7_ok : PrimOk Tryz.prog (primOf prims7) := primOk_of fun f q hq => by
  unfold prims7 at hq
  split at hq
  · rename_i hf
    have := Nat.eq_of_beq_eq_true hf
    subst this
    simp only [Option.some.injEq] at hq
    subst hq; exact nil9_at
  · split at hq
    · rename_i hf
      have := Nat.eq_of_beq_eq_true hf
      subst this
      simp only [Option.some.injEq] at hq
      subst hq; exact nil17_at
    · split at hq
      · rename_i hf
        have := Nat.eq_of_beq_eq_true hf
        subst this
        simp only [Option.some.injEq] at hq
        subst hq; exact nil12_at
      · split at hq
        · rename_i hf
          have := Nat.eq_of_beq_eq_true hf
          subst this
          simp only [Option.some.injEq] at hq
          subst hq; exact f14_at
        · cases hq
noncomputable def AN (m : Int) : AS := { heap := (Trie.leaf.set 3 (some (.cells ascTab 0 false))).set 4 (some (.cells [.int .i64 m] 0 false)), next := 64, ro := 64 }
end Go.Proofs
namespace Go.Proofs
open Go Go.Dp Go.Dp.Tr
theorem nil8 (g : Fun0) (fuel m : Int) :
  run (.lit 2 (.split (.must .done) (.lit 29 (.must (.lit 30 (.must (.lit 1 .done)))))))
    ((Tr.kc Tryz.prog prims7 30).call 8 [.agg ⟨g.cells⟩, .int .i64 fuel] (AN m) .ret) =
  (.ite (Bool.not (smallN (Fun0.mk g.name g.params g.regs g.frame)))
 (.ite (awkOk (AS.mk (Tr.hset (Trie.node (Trie.node (Trie.node Trie.leaf (some (.cells ascTab 0 false)) Trie.leaf) none Trie.leaf) none (Trie.node (Trie.node Trie.leaf (some (.cells [.int .i64 m] 0 false)) Trie.leaf) none Trie.leaf)) 64 (some (.cells [Value.string ⟨⟨g.name⟩⟩, .int .i64 g.params, .int .i64 g.regs, .int .i64 g.frame, .slice none 0 0] 0 false))) (Nat.succ 64) 64)) (.ret (.bool true)) .bad)
 (.ite (eqV 4 (.agg (Array.mk [Value.string ⟨⟨g.name⟩⟩, .int .i64 g.params, .int .i64 g.regs, .int .i64 g.frame, .slice none 0 0])) (.agg (Array.mk [Value.string ⟨⟨g.name⟩⟩, .int .i64 g.params, .int .i64 g.regs, .int .i64 g.frame, .slice none 0 0]))) (.ite (awkOk (AS.mk (Tr.hset (Tr.hset (Trie.node (Trie.node (Trie.node Trie.leaf (some (.cells ascTab 0 false)) (Trie.node (Trie.node (Trie.node (Trie.node Trie.leaf (some (.cells [] 15 false)) Trie.leaf) none Trie.leaf) none Trie.leaf) none Trie.leaf)) none (Trie.node (Trie.node (Trie.node (Trie.node (Trie.node Trie.leaf (some (.cells [Value.string ⟨⟨g.name⟩⟩, .int .i64 g.params, .int .i64 g.regs, .int .i64 g.frame, .slice none 0 0] 0 false)) Trie.leaf) none Trie.leaf) none Trie.leaf) none Trie.leaf) none Trie.leaf)) none (Trie.node (Trie.node (Trie.node (Trie.node (Trie.node (Trie.node Trie.leaf (some (.cells [Value.string ⟨⟨g.name⟩⟩, .int .i64 g.params, .int .i64 g.regs, .int .i64 g.frame, .slice none 0 0] 0 false)) Trie.leaf) none Trie.leaf) none Trie.leaf) none Trie.leaf) (some (.cells [.int .i64 m] 0 false)) Trie.leaf) none (Trie.node (Trie.node (Trie.node (Trie.node (Trie.node Trie.leaf (some (.cells [Value.string (ByteArray.mk (Array.mk [])), .int .i64 (Int.ofNat 0), .int .i64 (Int.ofNat 0), .int .i64 (Int.ofNat 0), .slice none 0 0] 0 false)) Trie.leaf) none Trie.leaf) none Trie.leaf) none Trie.leaf) none Trie.leaf))) (Nat.succ 64) (some (.cells [Value.string ⟨⟨g.name⟩⟩, .int .i64 g.params, .int .i64 g.regs, .int .i64 g.frame, .slice (some (Addr.mk (Nat.succ (Nat.succ (Nat.succ 64))) 0 none)) 0 0] 0 false))) (Nat.succ (Nat.succ 64)) (some (.cells [Value.string ⟨⟨g.name⟩⟩, .int .i64 g.params, .int .i64 g.regs, .int .i64 g.frame, .slice (some (Addr.mk (Nat.succ (Nat.succ (Nat.succ 64))) 0 none)) 0 0] 0 false))) 68 64)) (.ret (.bool true)) .bad) .bad)) := by kernel_rfl
theorem awk_of {A : AS} {m : Int} (h3 : A.get 3 = some (.cells ascTab 0 false)) (h4 : A.get 4 = some (.cells [.int .i64 m] 0 false)) : awkOk A = true :=
  @decide_eq_true _ (Classical.propDecidable _) ⟨m, 0, false, 0, false, h3, h4⟩
theorem eqV_nil (g : Fun0) : eqV 4 (.agg (Array.mk g.cells)) (.agg (Array.mk g.cells)) = true := by
  simp only [eqV, eqVs, Fun0.cells, eqOpt, Nat.beq_refl, decide_true, Bool.and_self]
theorem nil8_tells (g : Fun0) (fuel m : Int) : Tells (.bool true) ((Tr.kc Tryz.prog prims7 30).call 8 [.agg ⟨g.cells⟩, .int .i64 fuel] (AN m) .ret).eval := by
  refine tells_of (nil8 g fuel m) ⟨fun _ => ⟨fun _ => rfl, fun h => ?_⟩, fun _ => ⟨fun _ => ⟨fun _ => rfl, fun h => ?_⟩, fun h => ?_⟩⟩
  · rw [awk_of (m := m) (by kernel_rfl) (by kernel_rfl)] at h; cases h
  · rw [awk_of (m := m) (by kernel_rfl) (by kernel_rfl)] at h; cases h
  · exact absurd ((eqV_nil g).symm.trans h) (by decide)
end Go.Proofs
