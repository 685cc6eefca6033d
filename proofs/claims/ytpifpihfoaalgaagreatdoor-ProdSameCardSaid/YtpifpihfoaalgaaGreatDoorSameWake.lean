/- Proved here: the run of awake answers true. Conditions: two variables of the library hold what they hold. -/
import Derived.Shelf.Strings.Search1
import Derived.Shelf.Strings.Search2
import Derived.Shelf.Strings.Fields
import Derived.Test.YtpifpihfoaalgaaGreatDoorProg
import Derived.Test.YtpifpihfoaalgaaGreatDoorSameRun
set_option linter.unusedVariables false
set_option linter.unusedSimpArgs false
namespace Go.Proofs
open Go.Shelf
def Tryz.lays217_ren : Go.Shelf.Ren := ⟨fun | 217 => 235 | 266 => 259 | n => n, fun | 9 => 9 | 5 => 5 | 3 => 3 | n => n, fun | n => n⟩
theorem Tryz.lays217 : Go.Proofs.Lays.n217 Tryz.prog Tryz.lays217_ren := {
  mixed := by kernel_rfl
  f217 := Tryz.func235.trans (congrArg some (by kernel_rfl))
  f266 := Tryz.func259.trans (congrArg some (by kernel_rfl))
  t3 := Tryz.underlying3
  a3 := Tryz.isAgg3
  z3 := Tryz.sizeOf3
  v3 := Tryz.zeroValue3
  t5 := Tryz.underlying5
  a5 := Tryz.isAgg5
  z5 := Tryz.sizeOf5
  v5 := Tryz.zeroValue5
  t9 := Tryz.underlying9
  a9 := Tryz.isAgg9
  z9 := Tryz.sizeOf9
  v9 := Tryz.zeroValue9 }
open Go.RowKit Go.Lib in
theorem Tryz.stringslite_IndexByte (s : ByteArray) (c : Int) (w : World) :
    Calls Tryz.prog 235 #[.string s, .int .u8 c] w fun e w' => e = .returned (.int .i64 (Lib.indexByte s.data.toList c.toNat.toUInt8)) ∧ w' = w := Any.stringslite_IndexByte Tryz.lays217 s c w
def Tryz.lays219_ren : Go.Shelf.Ren := ⟨fun | 219 => 237 | 217 => 235 | 225 => 260 | 224 => 261 | 267 => 262 | 266 => 259 | 314 => 294 | n => n, fun | 9 => 9 | 3 => 3 | 4 => 4 | 5 => 5 | 46 => 159 | 146 => 333 | 51 => 157 | n => n, fun | 1 => 4 | n => n⟩
theorem Tryz.lays219 : Go.Proofs.Lays.n219 Tryz.prog Tryz.lays219_ren := {
  mixed := by kernel_rfl
  f217 := Tryz.func235.trans (congrArg some (by kernel_rfl))
  f219 := Tryz.func237.trans (congrArg some (by kernel_rfl))
  f224 := Tryz.func261.trans (congrArg some (by kernel_rfl))
  f225 := Tryz.func260.trans (congrArg some (by kernel_rfl))
  f266 := Tryz.func259.trans (congrArg some (by kernel_rfl))
  f267 := Tryz.func262.trans (congrArg some (by kernel_rfl))
  f314 := Tryz.func294.trans (congrArg some (by kernel_rfl))
  t3 := Tryz.underlying3
  a3 := Tryz.isAgg3
  z3 := Tryz.sizeOf3
  v3 := Tryz.zeroValue3
  t4 := Tryz.underlying4
  a4 := Tryz.isAgg4
  z4 := Tryz.sizeOf4
  v4 := Tryz.zeroValue4
  t5 := Tryz.underlying5
  a5 := Tryz.isAgg5
  z5 := Tryz.sizeOf5
  v5 := Tryz.zeroValue5
  t9 := Tryz.underlying9
  a9 := Tryz.isAgg9
  z9 := Tryz.sizeOf9
  v9 := Tryz.zeroValue9
  t46 := Tryz.underlying159
  a46 := Tryz.isAgg159
  z46 := Tryz.sizeOf159
  v46 := Tryz.zeroValue159
  t51 := Tryz.underlying157
  a51 := Tryz.isAgg157
  z51 := Tryz.sizeOf157
  v51 := Tryz.zeroValue157
  t146 := Tryz.underlying333
  a146 := Tryz.isAgg333
  z146 := Tryz.sizeOf333
  v146 := Tryz.zeroValue333
  g1 := by kernel_rfl }
open Go.RowKit Go.Lib in
theorem Tryz.stringslite_Index (s sub : ByteArray) (m : Int) (w : World) (hs : s.size < 4294967281) (hm : w.cell? ⟨4, 0, none⟩ = some (.int .i64 m)) :
    Calls Tryz.prog 237 #[.string s, .string sub] w fun e w' => e = .returned (.int .i64 (Lib.index s.data.toList sub.data.toList)) ∧ w' = w := Any.stringslite_Index Tryz.lays219 s sub m w hs hm
def Tryz.lays157_ren : Go.Shelf.Ren := ⟨fun | 157 => 223 | 229 => 252 | 199 => 253 | 261 => 292 | 311 => 322 | 312 => 323 | n => n, fun | 9 => 9 | 31 => 40 | 3 => 3 | 5 => 5 | 4 => 4 | 119 => 293 | 0 => 0 | 40 => 295 | 152 => 326 | 21 => 21 | 154 => 328 | 51 => 157 | 141 => 330 | 196 => 359 | 193 => 356 | 198 => 361 | 49 => 351 | 194 => 357 | 201 => 364 | 226 => 373 | 46 => 159 | 227 => 374 | n => n, fun | 0 => 3 | 6 => 5 | n => n⟩
theorem Tryz.lays157 : Go.Proofs.Lays.n157 Tryz.prog Tryz.lays157_ren := {
  mixed := by kernel_rfl
  f157 := Tryz.func223.trans (congrArg some (by kernel_rfl))
  f199 := Tryz.func253.trans (congrArg some (by kernel_rfl))
  f229 := Tryz.func252.trans (congrArg some (by kernel_rfl))
  f261 := Tryz.func292.trans (congrArg some (by kernel_rfl))
  f311 := Tryz.func322.trans (congrArg some (by kernel_rfl))
  f312 := Tryz.func323.trans (congrArg some (by kernel_rfl))
  t0 := Tryz.underlying0
  a0 := Tryz.isAgg0
  z0 := Tryz.sizeOf0
  v0 := Tryz.zeroValue0
  t3 := Tryz.underlying3
  a3 := Tryz.isAgg3
  z3 := Tryz.sizeOf3
  v3 := Tryz.zeroValue3
  t4 := Tryz.underlying4
  a4 := Tryz.isAgg4
  z4 := Tryz.sizeOf4
  v4 := Tryz.zeroValue4
  t5 := Tryz.underlying5
  a5 := Tryz.isAgg5
  z5 := Tryz.sizeOf5
  v5 := Tryz.zeroValue5
  t9 := Tryz.underlying9
  a9 := Tryz.isAgg9
  z9 := Tryz.sizeOf9
  v9 := Tryz.zeroValue9
  t21 := Tryz.underlying21
  a21 := Tryz.isAgg21
  z21 := Tryz.sizeOf21
  v21 := Tryz.zeroValue21
  t31 := Tryz.underlying40
  a31 := Tryz.isAgg40
  z31 := Tryz.sizeOf40
  v31 := Tryz.zeroValue40
  t40 := Tryz.underlying295
  a40 := Tryz.isAgg295
  z40 := Tryz.sizeOf295
  v40 := Tryz.zeroValue295
  t46 := Tryz.underlying159
  a46 := Tryz.isAgg159
  z46 := Tryz.sizeOf159
  v46 := Tryz.zeroValue159
  t49 := Tryz.underlying351
  a49 := Tryz.isAgg351
  z49 := Tryz.sizeOf351
  v49 := Tryz.zeroValue351
  t51 := Tryz.underlying157
  a51 := Tryz.isAgg157
  z51 := Tryz.sizeOf157
  v51 := Tryz.zeroValue157
  t119 := Tryz.underlying293
  a119 := Tryz.isAgg293
  z119 := Tryz.sizeOf293
  t141 := Tryz.underlying330
  a141 := Tryz.isAgg330
  z141 := Tryz.sizeOf330
  v141 := Tryz.zeroValue330
  t152 := Tryz.underlying326
  a152 := Tryz.isAgg326
  z152 := Tryz.sizeOf326
  v152 := Tryz.zeroValue326
  t154 := Tryz.underlying328
  a154 := Tryz.isAgg328
  z154 := Tryz.sizeOf328
  v154 := Tryz.zeroValue328
  t193 := Tryz.underlying356
  a193 := Tryz.isAgg356
  z193 := Tryz.sizeOf356
  v193 := Tryz.zeroValue356
  t194 := Tryz.underlying357
  a194 := Tryz.isAgg357
  z194 := Tryz.sizeOf357
  v194 := Tryz.zeroValue357
  t196 := Tryz.underlying359
  a196 := Tryz.isAgg359
  z196 := Tryz.sizeOf359
  v196 := Tryz.zeroValue359
  t198 := Tryz.underlying361
  a198 := Tryz.isAgg361
  z198 := Tryz.sizeOf361
  v198 := Tryz.zeroValue361
  t201 := Tryz.underlying364
  a201 := Tryz.isAgg364
  z201 := Tryz.sizeOf364
  v201 := Tryz.zeroValue364
  t226 := Tryz.underlying373
  a226 := Tryz.isAgg373
  z226 := Tryz.sizeOf373
  v226 := Tryz.zeroValue373
  t227 := Tryz.underlying374
  a227 := Tryz.isAgg374
  z227 := Tryz.sizeOf374
  v227 := Tryz.zeroValue374
  g0 := by kernel_rfl
  g6 := by kernel_rfl }
open Go.RowKit Go.Lib in
theorem Tryz.strings_Fields (s : ByteArray) (w : World) (hs : s.size < 4294967281) (hascii : ∀ (j : Nat) b, s.data.toList[j]? = some b → b.toNat < 128) (htab : Lib.TabIs Tryz.prog w "strings.asciiSpace" .u8 Lib.asciiSpaceTab) :
    Calls Tryz.prog 223 #[.string s] w fun e w' =>
      e = .returned (.slice (some ⟨w.heap.size, 0, none⟩) (Lib.fields s.data.toList).length (Lib.fields s.data.toList).length) ∧ w' = w.alloc (.cells ((Lib.fields s.data.toList).map fun l => Value.string ⟨l.toArray⟩).toArray 9) := Any.strings_Fields Tryz.lays157 (by kernel_rfl) (by kernel_rfl) s w hs hascii htab
end Go.Proofs
namespace Go.Proofs
open Go Go.Dp
theorem Tryz.fields_at (s : ByteArray) (w : World) (hs : s.size < 4294967281) (hascii : ∀ (j : Nat) b, s.data.toList[j]? = some b → b.toNat < 128)
    (hT : ∀ c : Nat, c < 256 → w.cell? ⟨3, c, none⟩ = some (.int .u8 (if Lib.isSp (UInt8.ofNat c) then 1 else 0))) :
    Calls Tryz.prog 223 #[.string s] w fun e w' => e = .returned (.slice (some ⟨w.heap.size, 0, none⟩) (Lib.fields s.data.toList).length (Lib.fields s.data.toList).length) ∧
      w' = w.alloc (.cells ((Lib.fields s.data.toList).map fun l => Value.string ⟨l.toArray⟩).toArray 9) :=
  Any.strings_Fields_core Tryz.lays157 (by kernel_rfl) s w hs hascii hT
def Tryz.prims (f : FuncId) : Option (List Value → AS → Option (Value × AS)) :=
  match Nat.beq f 235 with
  | true => some primIB
  | false => match Nat.beq f 237 with
    | true => some (primIX 4)
    | false => match Nat.beq f 223 with
      | true => some (primFL 3)
      | false => none
theorem Tryz.prims_ok : PrimOk Tryz.prog Tryz.prims := by
  intro f p hp
  unfold Tryz.prims at hp
  split at hp
  · rename_i hf
    have := Nat.eq_of_beq_eq_true hf
    subst this
    simp only [Option.some.injEq] at hp
    subst hp
    exact primIB_ok Tryz.stringslite_IndexByte
  · split at hp
    · rename_i hf
      have := Nat.eq_of_beq_eq_true hf
      subst this
      simp only [Option.some.injEq] at hp
      subst hp
      exact primIX_ok (by decide) fun s sub m w hs hm => Tryz.stringslite_Index s sub m w hs hm
    · split at hp
      · rename_i hf
        have := Nat.eq_of_beq_eq_true hf
        subst this
        simp only [Option.some.injEq] at hp
        subst hp
        exact primFL_ok (by decide) Tryz.fields_at
      · cases hp
end Go.Proofs
namespace Go.Proofs
open Go Go.Dp
def Tryz.A0 (m : Int) : AS := { heap := (Trie.leaf.set 3 (some (.cells ascTab 0 false))).set 4 (some (.cells [.int .i64 m] 0 false)), next := 64, ro := 64 }
theorem Tryz.awake_run (m : Int) : isTrue ((kc Tryz.prog Tryz.prims 300).call 14 [] (Tryz.A0 m) (fun v A => some (v, A))) = true := by kernel_rfl
end Go.Proofs
