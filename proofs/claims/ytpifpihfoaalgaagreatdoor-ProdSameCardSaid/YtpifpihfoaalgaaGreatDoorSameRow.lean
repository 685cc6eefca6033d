/- Proved here: ProdSame returns true and keeps all that was there, over arguments as they are read. Conditions: the variables of the row hold what it lists; the world is shaped. -/
import Derived.WalkKit
import Derived.ProofKit
import Derived.Deep.Slices
import Derived.OpenShut
import Derived.Test.YtpifpihfoaalgaaGreatDoorRows
import Derived.Test.YtpifpihfoaalgaaGreatDoorChecked
import Derived.Shelf.Vars
import Derived.Lib.LaidTab
import Derived.Lib.LaidU8
import Derived.LaidSub
import Derived.LaidLaws
import Derived.MakeChecks
import Derived.Lay
import Derived.LaidOnce
import Derived.SevenTiedAt
import Derived.Test.YtpifpihfoaalgaaGreatDoorSameMain
set_option linter.unusedVariables false
set_option linter.unusedSimpArgs false
namespace Go.Proofs
open Go Go.Dp Go.Dp.Tr
def envRow (b off : Nat) : Env := ⟨fun B => if B = 64 then b else B, fun B => if B = 64 then off else 0, fun _ => 0⟩
noncomputable def ARow (m : Int) (cs : List Value) : AS := { heap := (Tryz.A0 m).heap.set 64 (some (.cells cs 15 false)), next := 65, ro := 65 }
theorem ARow_inv {m : Int} {W : World} {b off : Nat} {cs : List Value} (h0 : Inv env0 (Tryz.A0 m) W)
    (hb : ∃ ccs T fr, W.heap[b]? = some (.cells ccs T fr) ∧ off + cs.length ≤ ccs.size ∧ ∀ (i : Nat) (v : Value), cs[i]? = some v → ccs[off + i]? = some v) (hf : cs.all flat = true) : Inv (envRow b off) (ARow m cs) W where
  obj := fun B o hB => by
    have hB : ((Tryz.A0 m).heap.set 64 (some (AObj.cells cs 15 false))).get B = some o := hB
    rw [Trie.get_set] at hB
    split at hB
    · rename_i h64
      subst h64
      have hB := Option.some.inj hB
      subst hB
      obtain ⟨ccs, T, fr, h1, h2, h3⟩ := hb
      refine ⟨ccs, T, fr, h1, fun _ => rfl, ?_, ?_, ?_⟩
      · show off + cs.length + 0 * 15 ≤ ccs.size
        omega
      · intro i v hv
        exact ⟨v, h3 i v hv, .flat ((List.all_eq_true.1 hf) v (List.mem_of_getElem? hv))⟩
      · intro hr
        have hr : 65 ≤ 64 := hr
        omega
    · rename_i h64
      have hlt : B < 64 := h0.dom B o hB
      have ho := h0.obj B o hB
      have e1 : (envRow b off).loc B = env0.loc B := if_neg (fun h => h64 h.symm)
      have e2 : (envRow b off).off B = env0.off B := if_neg (fun h => h64 h.symm)
      have hc : ∃ cs z x, o = .cells cs z x ∧ cs.all flat = true := by
        have hB : ((Trie.leaf.set 3 (some (AObj.cells ascTab 0 false))).set 4 (some (.cells [.int .i64 m] 0 false))).get B = some o := hB
        rw [Trie.get_set, Trie.get_set, Trie.get_leaf] at hB
        split at hB
        · simp only [Option.some.injEq] at hB
          exact ⟨_, _, _, hB.symm, rfl⟩
        · split at hB
          · simp only [Option.some.injEq] at hB
            refine ⟨_, _, _, hB.symm, ?_⟩
            rw [List.all_eq_true]
            intro v hv
            obtain ⟨c, _, rfl⟩ := List.mem_map.1 hv
            rfl
          · cases hB
      obtain ⟨cs', z, x, rfl, hf'⟩ := hc
      obtain ⟨ccs, T, fr, h1, h2, h3, h4, h5⟩ := ho
      refine ⟨ccs, T, fr, by rw [e1]; exact h1, fun _ => rfl, ?_, ?_, ?_⟩
      · rw [e2]; exact h3
      · intro i v hv
        obtain ⟨v', h6, h7⟩ := h4 i v hv
        have hfv := (List.all_eq_true.1 hf') v (List.mem_of_getElem? hv)
        have : v' = v := VR.of_flat hfv h7
        subst this
        exact ⟨v', by rw [e2]; exact h6, .flat hfv⟩
      · intro hr
        have hr : 65 ≤ B := hr
        omega
  dom := fun B o hB => by
    have hB : ((Tryz.A0 m).heap.set 64 (some (AObj.cells cs 15 false))).get B = some o := hB
    rw [Trie.get_set] at hB
    show B < 65
    split at hB
    · omega
    · have : B < 64 := h0.dom B o hB
      omega
  inj := fun B B' o o' hB _ _ hr => by
    have hB : ((Tryz.A0 m).heap.set 64 (some (AObj.cells cs 15 false))).get B = some o := hB
    rw [Trie.get_set] at hB
    have hr : 65 ≤ B := hr
    split at hB
    · omega
    · have : B < 64 := h0.dom B o hB
      omega
  le := Nat.le_refl _
theorem ARow_glob (b off : Nat) (m : Int) (cs : List Value) : Glob (envRow b off) (ARow m cs) :=
  ⟨by show 64 ≤ 65; decide, fun g hg => by
    have hg : g < 64 := hg
    have hn : ¬ g = 64 := by omega
    exact ⟨if_neg hn, if_neg hn⟩⟩
theorem ARow_ro {m : Int} {cs : List Value} (e : Env) {W : World} (h : Inv e (ARow m cs) W) : AllRo (ARow m cs) := fun B o hB => h.dom B o hB
theorem law_row {m : Int} {W : World} (hm : W.cell? ⟨4, 0, none⟩ = some (.int .i64 m))
    (hT : ∀ c : Nat, c < 256 → W.cell? ⟨3, c, none⟩ = some (.int .u8 (if Lib.isSp (UInt8.ofNat c) then 1 else 0)))
    (name : List UInt8) (params regs frame fuel : Int) (b off o len cap : Nat) (cs : List Value)
    (hb : ∃ ccs T fr, W.heap[b]? = some (.cells ccs T fr) ∧ off + cs.length ≤ ccs.size ∧ ∀ (i : Nat) (v : Value), cs[i]? = some v → ccs[off + i]? = some v) (hf : cs.all flat = true) (hc : okC cs o len = true) :
    CallsTo Tryz.prog 8 #[.agg #[.string ⟨⟨name⟩⟩, .int .i64 params, .int .i64 regs, .int .i64 frame, .slice (some ⟨b, off + o, none⟩) len cap], .int .i64 fuel] W fun v' w' => v' = .bool true ∧ Kept W w' := by
  have h0 := (Tryz.A0_start hm hT).inv
  have hi := ARow_inv h0 hb hf
  have ht := f8_tells ⟨name, params, regs, frame, 64, o, len, cap⟩ fuel cs 15 false hc (ARow m cs) (m := m) (z3 := 0) (z4 := 0) (e3 := false) (e4 := false)
    ⟨by rw [Tr.hget_eq]; show ((Tryz.A0 m).heap.set 64 (some (AObj.cells cs 15 false))).get 64 = _; rw [Trie.get_set, if_pos rfl], by show 64 < 65; decide⟩
    ⟨by
      rw [Tr.hget_eq]; show ((Tryz.A0 m).heap.set 64 (some (AObj.cells cs 15 false))).get 3 = _
      rw [Trie.get_set, if_neg (by decide)]
      show ((Trie.leaf.set 3 (some (AObj.cells ascTab 0 false))).set 4 (some (.cells [.int .i64 m] 0 false))).get 3 = _
      rw [Trie.get_set, Trie.get_set, if_neg (by decide), if_pos rfl], by show 3 < 65; decide⟩
    ⟨by
      rw [Tr.hget_eq]; show ((Tryz.A0 m).heap.set 64 (some (AObj.cells cs 15 false))).get 4 = _
      rw [Trie.get_set, if_neg (by decide)]
      show ((Trie.leaf.set 3 (some (AObj.cells ascTab 0 false))).set 4 (some (.cells [.int .i64 m] 0 false))).get 4 = _
      rw [Trie.get_set, if_pos rfl], by show 4 < 65; decide⟩
    (Nat.le_refl _)
  refine calls_kept prims3_ok (by kernel_rfl) (by kernel_rfl) hi (ARow_glob b off m cs) ?_ (ARow_ro _ hi) rfl ht
  refine .cons (.agg (.cons (.flat rfl) (.cons (.flat rfl) (.cons (.flat rfl) (.cons (.flat rfl) (.cons ?_ .nil)))))) (.cons (.flat rfl) .nil)
  have := VR.slice (e := envRow b off) (n := 65) (B := 64) (o := o) (len := len) (c := cap) (by decide)
  exact this
theorem law_nil {m : Int} {W : World} (hm : W.cell? ⟨4, 0, none⟩ = some (.int .i64 m))
    (hT : ∀ c : Nat, c < 256 → W.cell? ⟨3, c, none⟩ = some (.int .u8 (if Lib.isSp (UInt8.ofNat c) then 1 else 0)))
    (name : List UInt8) (params regs frame fuel : Int) :
    CallsTo Tryz.prog 8 #[.agg #[.string ⟨⟨name⟩⟩, .int .i64 params, .int .i64 regs, .int .i64 frame, .slice none 0 0], .int .i64 fuel] W fun v' w' => v' = .bool true ∧ Kept W w' := by
  have hs := Tryz.A0_start hm hT
  have hi : Inv env0 (AN m) W := hs.inv
  refine calls_kept prims7_ok (by kernel_rfl) (by kernel_rfl) hi hs.glob ?_ (fun B o hB => hi.dom B o hB) rfl (nil8_tells ⟨name, params, regs, frame⟩ fuel m)
  exact .cons (.agg (.cons (.flat rfl) (.cons (.flat rfl) (.cons (.flat rfl) (.cons (.flat rfl) (.cons (.flat rfl) .nil)))))) (.cons (.flat rfl) .nil)
end Go.Proofs
namespace Go.Proofs
open Go Go.Dp Go.Dp.Tr
open Go.RowKit Go.ChangeShapes Go.WideShapes Go.ChangeAt
section
variable {H : Type} {enc : TypeId × Value → H} {w : World} {base : Nat} {spare : Nat → Bool} {held : Bool} {fuel : Nat}
theorem int_open {t : TypeId} {x : Option (DataW H × List MemPlace)} {v : Value} (ht : Tryz.prog.underlying t = some (.int .i64)) (h : DataW.trod enc Tryz.prog w base spare held fuel t [v] = x) (hx : x.isSome = true) : ∃ n, v = .int .i64 n := by
  subst h
  obtain ⟨y, hy⟩ := Option.isSome_iff_exists.1 hx
  obtain ⟨n, hn, _⟩ := DataW.trod_int ht hy
  simp only [List.cons.injEq, and_true] at hn
  exact ⟨n, hn⟩
theorem str_open {t : TypeId} {x : Option (DataW H × List MemPlace)} {v : Value} (ht : Tryz.prog.underlying t = some .string) (h : DataW.trod enc Tryz.prog w base spare held fuel t [v] = x) (hx : x.isSome = true) : ∃ l, v = .string ⟨⟨l⟩⟩ := by
  subst h
  obtain ⟨y, hy⟩ := Option.isSome_iff_exists.1 hx
  obtain ⟨⟨⟨l⟩⟩, hn, _⟩ := DataW.trod_string ht hy
  simp only [List.cons.injEq, and_true] at hn
  exact ⟨l, hn⟩
theorem some_of {α : Type} {xs : List α} {i : Nat} (h : i < xs.length) : (xs[i]?).isSome = true := by
  rw [List.getElem?_eq_getElem h]; rfl
set_option maxRecDepth 20000 in
theorem ins_open {cs : List Value} {x : DataW H × List MemPlace} (h : DataW.trod enc Tryz.prog w base spare held fuel 49 cs = some x) : ∃ i : Ins, cs = i.cells := by
  obtain ⟨xs, n, _, _, hl, hx, hel⟩ := DataW.trod_struct Tryz.underlying49 h
  have c49 : Tryz.prog.cellsOf 49 = 15 := by kernel_rfl
  have c3 : Tryz.prog.cellsOf 3 = 1 := by kernel_rfl
  have c46 : Tryz.prog.cellsOf 46 = 1 := by kernel_rfl
  have c9 : Tryz.prog.cellsOf 9 = 1 := by kernel_rfl
  have c47 : Tryz.prog.cellsOf 47 = 6 := by kernel_rfl
  have hx : xs.length = 10 := hx
  rw [c49] at hl
  match cs, hl with
  | [v0, v1, v2, v3, v4, v5, v6, v7, v8, v9, v10, v11, v12, v13, v14], _ =>
    have h0 := hel 0 ⟨ "Kind", 3, 0, false, "", "", 0⟩ rfl
    have h1 := hel 1 ⟨ "Op", 46, 1, false, "", "", 8⟩ rfl
    have h2 := hel 2 ⟨ "Dst", 3, 2, false, "", "", 16⟩ rfl
    have h3 := hel 3 ⟨ "A", 3, 3, false, "", "", 24⟩ rfl
    have h4 := hel 4 ⟨ "B", 3, 4, false, "", "", 32⟩ rfl
    have h5 := hel 5 ⟨ "N", 3, 5, false, "", "", 40⟩ rfl
    have h6 := hel 6 ⟨ "Text", 9, 6, false, "", "", 48⟩ rfl
    have h7 := hel 7 ⟨ "Args", 47, 7, false, "", "", 64⟩ rfl
    have h8 := hel 8 ⟨ "To", 3, 13, false, "", "", 112⟩ rfl
    have h9 := hel 9 ⟨ "Else", 3, 14, false, "", "", 120⟩ rfl
    simp only [c3, c46, c9, c47, List.drop_succ_cons, List.drop_zero, List.take_succ_cons, List.take_zero] at h0 h1 h2 h3 h4 h5 h6 h7 h8 h9
    obtain ⟨n0, rfl⟩ := int_open Tryz.underlying3 h0 (some_of (by omega))
    obtain ⟨n1, rfl⟩ := int_open Tryz.underlying46 h1 (some_of (by omega))
    obtain ⟨n2, rfl⟩ := int_open Tryz.underlying3 h2 (some_of (by omega))
    obtain ⟨n3, rfl⟩ := int_open Tryz.underlying3 h3 (some_of (by omega))
    obtain ⟨n4, rfl⟩ := int_open Tryz.underlying3 h4 (some_of (by omega))
    obtain ⟨n5, rfl⟩ := int_open Tryz.underlying3 h5 (some_of (by omega))
    obtain ⟨n6, rfl⟩ := str_open Tryz.underlying9 h6 (some_of (by omega))
    obtain ⟨n8, rfl⟩ := int_open Tryz.underlying3 h8 (some_of (by omega))
    obtain ⟨n9, rfl⟩ := int_open Tryz.underlying3 h9 (some_of (by omega))
    rw [List.getElem?_eq_getElem (by omega : 7 < xs.length)] at h7
    obtain ⟨ys, m, _, _, _, hy, hey⟩ := DataW.trod_array Tryz.underlying47 h7
    have g0 := hey 0 (by decide)
    have g1 := hey 1 (by decide)
    have g2 := hey 2 (by decide)
    have g3 := hey 3 (by decide)
    have g4 := hey 4 (by decide)
    have g5 := hey 5 (by decide)
    simp only [c3, Nat.zero_mul, Nat.one_mul, Nat.reduceMul, List.drop_succ_cons, List.drop_zero, List.take_succ_cons, List.take_zero] at g0 g1 g2 g3 g4 g5
    obtain ⟨k0, rfl⟩ := int_open Tryz.underlying3 g0 (some_of (by omega))
    obtain ⟨k1, rfl⟩ := int_open Tryz.underlying3 g1 (some_of (by omega))
    obtain ⟨k2, rfl⟩ := int_open Tryz.underlying3 g2 (some_of (by omega))
    obtain ⟨k3, rfl⟩ := int_open Tryz.underlying3 g3 (some_of (by omega))
    obtain ⟨k4, rfl⟩ := int_open Tryz.underlying3 g4 (some_of (by omega))
    obtain ⟨k5, rfl⟩ := int_open Tryz.underlying3 g5 (some_of (by omega))
    exact ⟨⟨n0, n1, n2, n3, n4, n5, n6, k0, k1, k2, k3, k4, k5, n8, n9⟩, rfl⟩
theorem Ins.cells_flat (i : Ins) : i.cells.all flat = true := rfl
theorem row_open {a : Addr} {len : Nat} (ha : a.spot = none) (hpos : 0 < len)
    (h : ∀ i, i < len → ∃ cs', w.cells? base (a.add (i * 15)) 15 = some cs' ∧ ∃ x : Ins, cs' = x.cells) (hle : len ≤ 2 ^ 63 - 1) :
    ∃ cs : List Value, (∃ ccs T fr, w.heap[a.block]? = some (.cells ccs T fr) ∧ a.off + cs.length ≤ ccs.size ∧ ∀ (i : Nat) (v : Value), cs[i]? = some v → ccs[a.off + i]? = some v) ∧
      cs.all flat = true ∧ okC cs 0 len = true := by
  obtain ⟨b, off, sp⟩ := a
  simp only at ha
  subst ha
  have key : ∀ i, i < len → ∃ x : Ins, ∀ r, r < 15 → w.cell? ⟨b, off + (i * 15 + r), none⟩ = x.cells[r]? := by
    intro i hi
    obtain ⟨cs', h1, x, rfl⟩ := h i hi
    refine ⟨x, fun r hr => ?_⟩
    have := (World.cells?_some h1).2.2 r hr
    rw [Go.Deep.add_add] at this
    have e : (Addr.mk b off none).add (i * 15 + r) = ⟨b, off + (i * 15 + r), none⟩ := by
      unfold Addr.add
      split
      · rename_i h0
        rw [h0]; rfl
      · rfl
    rw [e] at this
    exact this
  obtain ⟨xl, hxl⟩ := key (len - 1) (by omega)
  obtain ⟨ccs, T, fr, hh, hlast⟩ := cell_block ((hxl 14 (by decide)).trans (show xl.cells[14]? = some (.int .i64 xl.els) from rfl))
  have hsz := (Array.getElem?_eq_some_iff.1 hlast).1
  have hcell : ∀ j v, w.cell? ⟨b, j, none⟩ = some v → ccs[j]? = some v := by
    intro j v hv
    obtain ⟨ccs', T', fr', h3, h4⟩ := cell_block hv
    rw [hh] at h3
    cases h3
    exact h4
  let cs := (ccs.toList.drop off).take (len * 15)
  have hlen : cs.length = len * 15 := by
    show ((ccs.toList.drop off).take (len * 15)).length = _
    rw [List.length_take, List.length_drop, Array.length_toList]
    omega
  have hat : ∀ i, i < len * 15 → cs[i]? = ccs[off + i]? := by
    intro i hi
    show ((ccs.toList.drop off).take (len * 15))[i]? = _
    rw [List.getElem?_take_of_lt hi, List.getElem?_drop, Array.getElem?_toList]
  have hpiece : ∀ i, i < len → ∃ x : Ins, (cs.drop (i * 15)).take 15 = x.cells := by
    intro i hi
    obtain ⟨x, hx⟩ := key i hi
    refine ⟨x, ?_⟩
    apply List.ext_getElem?
    intro r
    rcases Nat.lt_or_ge r 15 with hr | hr
    · have hr' : i * 15 + r < len * 15 := by omega
      rw [List.getElem?_take_of_lt hr, List.getElem?_drop, hat _ hr']
      have h1 := hx r hr
      have hlx : x.cells.length = 15 := rfl
      rw [List.getElem?_eq_getElem (by omega : r < x.cells.length)] at h1 ⊢
      exact hcell _ _ h1
    · rw [List.getElem?_eq_none (by rw [List.length_take]; omega), List.getElem?_eq_none (by show 15 ≤ r; exact hr)]
  refine ⟨cs, ⟨ccs, T, fr, hh, by show off + cs.length ≤ _; omega, ?_⟩, ?_, ?_⟩
  · intro i v hv
    have hi : i < len * 15 := by
      have := (List.getElem?_eq_some_iff.1 hv).1
      omega
    rw [hat i hi] at hv
    exact hv
  · rw [List.all_eq_true]
    intro v hv
    obtain ⟨j, hj⟩ := List.getElem?_of_mem hv
    have hjl : j < len * 15 := by
      have := (List.getElem?_eq_some_iff.1 hj).1
      omega
    obtain ⟨x, hx⟩ := hpiece (j / 15) (by omega)
    have hm : x.cells[j % 15]? = some v := by
      rw [← hx, List.getElem?_take_of_lt (by omega), List.getElem?_drop]
      rw [show j / 15 * 15 + j % 15 = j by omega]
      exact hj
    exact (List.all_eq_true.1 x.cells_flat) v (List.mem_of_getElem? hm)
  · unfold okC
    rw [Bool.and_eq_true]
    refine ⟨decide_eq_true hle, ?_⟩
    rw [List.all_eq_true]
    intro i hi
    rw [List.mem_range] at hi
    obtain ⟨x, hx⟩ := hpiece i hi
    unfold insAt piece
    simp only [Nat.zero_add, hx]
    rfl
end
end Go.Proofs
namespace Go.Proofs.YtpifpihfoaalgaaGreatDoor
open Go Go.Dp Go.RowKit Go.Lib
open Go.ChangeShapes Go.WideShapes Go.ChangeAt
set_option maxRecDepth 100000
theorem sameLaid_eq : (Rows.prodSameRow.laid.filter fun x => x.1 == "strings.asciiSpace") = [("strings.asciiSpace", tabData .u8 asciiSpaceTab)] := by kernel_rfl
theorem same_tab {W : World} (h : laidMetH Tryz.prog Rows.prodSameRow.laid W) : ∀ c : Nat, c < 256 → W.cell? ⟨3, c, none⟩ = some (.int .u8 (if isSp (UInt8.ofNat c) then 1 else 0)) := by
  rw [MakeChecks.laidMetH_plain _ _ _ (by kernel_rfl)] at h
  have h1 := laidMet.filter (fun x => x.1 == "strings.asciiSpace") h
  rw [sameLaid_eq] at h1
  have hg : Tryz.prog.globalNamed "strings.asciiSpace" = some 3 := by kernel_rfl
  have ht : TabIs Tryz.prog W "strings.asciiSpace" .u8 asciiSpaceTab := tabIs_of_head (g := 3) (t := 293) (e := 5) (n := 256) hg (by kernel_rfl) Tryz.underlying293 Tryz.underlying5 (by kernel_rfl) (by kernel_rfl) h1
  intro c hc
  rw [ht.cell hg c (by rw [asciiSpaceTab_length]; exact hc), asciiSpaceTab_at c hc]
theorem same_max {W : World} (h : W.ShapedOpen Tryz.prog) : ∃ m, W.cell? ⟨4, 0, none⟩ = some (.int .i64 m) :=
  cell_of_shapedOpen_int (P := Tryz.prog) (g := 4) (t := 3) (zero := #[.int .i64 0]) h (of_decide_eq_true (by kernel_rfl)) (by kernel_rfl) rfl (by kernel_rfl) (by kernel_rfl) Tryz.underlying3
theorem below_of_kept {w w' : World} (h : Kept w w') : Below w.heap.size w w' := ⟨h.os, h.tape, h.output, h.size, h.heap⟩
variable {H : Type} {enc : TypeId × Value → H}
theorem same_calls {W : World} {v0 v1 : Value} {d0 d1 : DataW H} {p0 p1 : List MemPlace} {base : Nat} (hL : laidMetH Tryz.prog Rows.prodSameRow.laid W) (hsh : W.ShapedOpen Tryz.prog)
    (hv0 : Value.okWide Tryz.prog W .any base 24 v0) (hv1 : Value.okWide Tryz.prog W .any base 3 v1)
    (h0 : DataW.Trod enc Tryz.prog W 0 (fun _ => true) true 24 v0 d0 p0) (h1 : DataW.Trod enc Tryz.prog W 0 (fun _ => true) true 3 v1 d1 p1) :
    CallsTo Tryz.prog 8 #[v0, v1] W fun v' w' => v' = .bool true ∧ Kept W w' := by
  have hT := same_tab hL
  obtain ⟨m, hm⟩ := same_max hsh
  obtain ⟨fu, rfl, _, _, _⟩ := open_int Tryz.underlying3 hv1 h1
  have c24 : Tryz.prog.cellsOf 24 = 5 := by kernel_rfl
  have c49 : Tryz.prog.cellsOf 49 = 15 := by kernel_rfl
  have c3 : Tryz.prog.cellsOf 3 = 1 := by kernel_rfl
  have c9 : Tryz.prog.cellsOf 9 = 1 := by kernel_rfl
  have c22 : Tryz.prog.cellsOf 22 = 1 := by kernel_rfl
  have hw := hv0
  unfold Value.okWide at hw
  rw [Tryz.underlying24] at hw
  obtain ⟨⟨cs⟩, rfl, hsz, hrow⟩ := hw
  rw [c24] at hsz
  have hsz : cs.length = 5 := hsz
  obtain ⟨fuel, hf⟩ := h0
  obtain ⟨xs, n, _, _, hl, hx, hel⟩ := DataW.trod_struct Tryz.underlying24 hf
  have hx : xs.length = 5 := hx
  match cs, hsz with
  | [a0, a1, a2, a3, a4], _ =>
    have g0 := hel 0 ⟨ "Name", 9, 0, false, "", "", 0⟩ rfl
    have g1 := hel 1 ⟨ "Params", 3, 1, false, "", "", 16⟩ rfl
    have g2 := hel 2 ⟨ "Regs", 3, 2, false, "", "", 24⟩ rfl
    have g3 := hel 3 ⟨ "Frame", 3, 3, false, "", "", 32⟩ rfl
    have g4 := hel 4 ⟨ "Code", 22, 4, false, "", "", 40⟩ rfl
    simp only [Value.cells, c3, c9, c22, List.drop_succ_cons, List.drop_zero, List.take_succ_cons, List.take_zero] at g0 g1 g2 g3 g4
    obtain ⟨name, rfl⟩ := str_open Tryz.underlying9 g0 (some_of (by omega))
    obtain ⟨pa, rfl⟩ := int_open Tryz.underlying3 g1 (some_of (by omega))
    obtain ⟨re, rfl⟩ := int_open Tryz.underlying3 g2 (some_of (by omega))
    obtain ⟨fr, rfl⟩ := int_open Tryz.underlying3 g3 (some_of (by omega))
    rw [List.getElem?_eq_getElem (by omega : 4 < xs.length)] at g4
    rcases Deep.open_slice Tryz.underlying22 g4 with ⟨hn, _⟩ | ⟨a, len, cap, mm, n', D, Pl, hn, _, hlen, hcap, hmm, _, hr⟩
    · simp only [List.cons.injEq, and_true] at hn
      subst hn
      exact law_nil hm hT name pa re fr fu
    · simp only [List.cons.injEq, and_true] at hn
      subst hn
      have hcell : Cell.okWide Tryz.prog W .any base 22 (.slice (some a) len cap) := by
        obtain ⟨ts, hts, _, hall⟩ := hrow
        have e : Tryz.prog.cellTypes Tryz.prog.depth 24 = some [9, 3, 3, 3, 22] := by kernel_rfl
        rw [e] at hts
        cases hts
        obtain ⟨u, hu, hok⟩ := hall 4 _ rfl
        have : u = 22 := (Option.some.inj hu).symm
        subst this
        exact hok
      have hcell : Cell.ok Tryz.prog W .any base 22 (.slice (some a) len cap) := by
        unfold Cell.okWide at hcell
        rw [Tryz.underlying22] at hcell
        exact hcell
      unfold Cell.ok at hcell
      rw [Tryz.underlying22] at hcell
      obtain ⟨_, _, hlets, hspot, row, cells, hshape, _⟩ := hcell
      have hmm : mm = cap := hmm
      subst hmm
      have hbl : len ≤ 2 ^ 63 - 1 := by
        have : maxLen = 2 ^ 63 - 1 := rfl
        omega
      rcases Nat.eq_zero_or_pos len with rfl | hpos
      · obtain ⟨b, off, sp⟩ := a
        simp only at hspot
        subst hspot
        have hblk : ∃ ccs T fr, W.heap[b]? = some (.cells ccs T fr) := by
          unfold World.shape? at hshape
          split at hshape
          · rename_i hh; exact ⟨_, _, _, hh⟩
          · cases hshape
        obtain ⟨ccs, T, fz, hh⟩ := hblk
        have := law_row hm hT name pa re fr fu b 0 off 0 mm [] ⟨ccs, T, fz, hh, by simp, fun i v hv => by simp at hv⟩ rfl rfl
        rw [Nat.zero_add] at this
        exact this
      · obtain ⟨ks, hk1, hk2, hk3⟩ := row_open (w := W) (base := 0) hspot hpos (fun i hi => by
          obtain ⟨cs', h1, h2⟩ := hr i (by omega)
          rw [c49] at h1
          exact ⟨cs', h1, ins_open h2⟩) hbl
        obtain ⟨b, off, sp⟩ := a
        simp only at hspot
        subst hspot
        exact law_row hm hT name pa re fr fu b off 0 len mm ks hk1 hk2 hk3
end Go.Proofs.YtpifpihfoaalgaaGreatDoor
