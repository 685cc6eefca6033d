/- Proved here: what the clean machine answers of a call, the model does. Conditions: the program follows mixed orders; the functions that are not gone through keep their contracts. -/
import Derived.Orders
import Derived.AtR
import Derived.RangeFuncIn
import Derived.Defers
import Derived.Test.YtpifpihfoaalgaaGreatDoorSameBase
set_option linter.unusedVariables false
set_option linter.unusedSimpArgs false
namespace Go.Dp
open Go
variable {P : Program} {e : Env} {A : AS} {w : World}
def EntRel (e : Env) (n : Nat) (en cen : MapEntry) : Prop := flat en.key = true ∧ cen.key = en.key ∧ cen.born = en.born ∧ VR e n en.val cen.val
def EntsRel (e : Env) (n : Nat) (es : List MapEntry) (ces : Array MapEntry) : Prop :=
  ces.size = es.length ∧ ∀ (i : Nat) (en : MapEntry), es[i]? = some en → ∃ cen : MapEntry, ces[i]? = some cen ∧ EntRel e n en cen
theorem heap_set {r : Nat} {o o' : Obj} (h : w.heap[r]? = some o) :
    ({ w with heap := w.heap.setIfInBounds r o' } : World).heap[r]? = some o' ∧ ({ w with heap := w.heap.setIfInBounds r o' } : World).heap.size = w.heap.size ∧
    ∀ b, b ≠ r → ({ w with heap := w.heap.setIfInBounds r o' } : World).heap[b]? = w.heap[b]? := by
  have hlt : r < w.heap.size := by
    rcases Nat.lt_or_ge r w.heap.size with hb | hb
    · exact hb
    · simp [Array.getElem?_eq_none hb] at h
  refine ⟨by simp [hlt], by simp, fun b hb => ?_⟩
  simp [Ne.symm hb]
theorem putObj_sound (hi : Inv e A w) {B : Nat} {oa oa' : AObj} {o o' : Obj} (hB : A.get B = some oa) (hr : A.ro ≤ B) (hb : w.heap[e.loc B]? = some o)
    (ho : ObjAt e A.next A.ro { w with heap := w.heap.setIfInBounds (e.loc B) o' } B oa') :
    Inv e (A.put B (some oa')) { w with heap := w.heap.setIfInBounds (e.loc B) o' } ∧ Step e A w e (A.put B (some oa')) { w with heap := w.heap.setIfInBounds (e.loc B) o' } := by
  obtain ⟨h1, h2, h3⟩ := heap_set (o' := o') hb
  exact write_sound hi hB hr h2 h3 rfl rfl rfl ho
theorem putMap_sound (hi : Inv e A w) {B : Nat} {es es' : List MapEntry} {clock clock' : Nat} {ces ces' : Array MapEntry} (hB : A.get B = some (.map es clock)) (hr : A.ro ≤ B)
    (hb : w.heap[e.loc B]? = some (.map ces clock)) (hrel : EntsRel e A.next es' ces') :
    Inv e (A.put B (some (.map es' clock'))) { w with heap := w.heap.setIfInBounds (e.loc B) (.map ces' clock') } ∧
    Step e A w e (A.put B (some (.map es' clock'))) { w with heap := w.heap.setIfInBounds (e.loc B) (.map ces' clock') } :=
  putObj_sound hi hB hr hb ⟨ces', (heap_set hb).1, hrel.1, hrel.2⟩
theorem EntsRel.push {n : Nat} {es : List MapEntry} {ces : Array MapEntry} {en cen : MapEntry} (h : EntsRel e n es ces) (h' : EntRel e n en cen) :
    EntsRel e n (es ++ [en]) (ces.push cen) := by
  refine ⟨by simp [h.1], fun i x hx => ?_⟩
  rw [Array.getElem?_push]
  by_cases hi : i < es.length
  · rw [List.getElem?_append_left hi] at hx
    rw [if_neg (by have := h.1; omega)]
    exact h.2 i x hx
  · rw [List.getElem?_append_right (by omega)] at hx
    have hi0 : i - es.length = 0 := by
      rcases Nat.eq_zero_or_pos (i - es.length) with h0 | h0
      · exact h0
      · rw [List.getElem?_eq_none (by simp; omega)] at hx; cases hx
    rw [hi0] at hx
    simp at hx; subst hx
    rw [if_pos (by have := h.1; omega)]
    exact ⟨cen, rfl, h'⟩
theorem EntsRel.modify {n : Nat} {es : List MapEntry} {ces : Array MapEntry} {i : Nat} {en en' : MapEntry} {f : MapEntry → MapEntry} (h : EntsRel e n es ces) (hi : es[i]? = some en)
    (h' : ∀ cen, ces[i]? = some cen → EntRel e n en cen → EntRel e n en' (f cen)) : EntsRel e n (es.set i en') (ces.modify i f) := by
  have hlt : i < es.length := by
    rcases Nat.lt_or_ge i es.length with hb | hb
    · exact hb
    · simp [List.getElem?_eq_none hb] at hi
  refine ⟨by simp [h.1], fun j x hx => ?_⟩
  rw [List.getElem?_set] at hx
  by_cases hj : i = j
  · subst hj
    simp [hlt] at hx; subst hx
    obtain ⟨cen, h1, h2⟩ := h.2 i en hi
    exact ⟨f cen, by simp [Array.getElem?_modify, h1], h' cen h1 h2⟩
  · simp [hj] at hx
    obtain ⟨cen, h1, h2⟩ := h.2 j x hx
    exact ⟨cen, by simp [Array.getElem?_modify, hj, h1], h2⟩
theorem EntsRel.erase {n : Nat} {es : List MapEntry} {ces : Array MapEntry} {i : Nat} (h : EntsRel e n es ces) (hi : i < es.length) :
    EntsRel e n (es.eraseIdx i) (ces.eraseIdxIfInBounds i) := by
  have hc : i < ces.size := by have := h.1; omega
  have he : ces.eraseIdxIfInBounds i = (ces.toList.eraseIdx i).toArray := by
    simp [Array.eraseIdxIfInBounds, hc]
    apply Array.ext'
    simp
  rw [he]
  refine ⟨by simp [List.length_eraseIdx, hi, h.1], fun j x hx => ?_⟩
  rw [List.getElem?_eraseIdx] at hx
  simp only [List.getElem?_toArray, List.getElem?_eraseIdx, Array.getElem?_toList]
  split at hx
  · rename_i hj; rw [if_pos hj]; exact h.2 j x hx
  · rename_i hj; rw [if_neg hj]; exact h.2 (j + 1) x hx
theorem mapUpdate_sound (hi : Inv e A w) {t : TypeId} {m m' k k' v v' : Value} {A' : AS} (h : aMapUpdate P A t m k v = some A') (hm : VR e A.next m m')
    (hk : VR e A.next k k') (hv : VR e A.next v v') :
    ∃ w', (Instr.mapUpdate t m' k' v').run P w = .ok () w' ∧ Inv e A' w' ∧ Step e A w e A' w' := by
  unfold aMapUpdate at h
  split at h
  · rename_i kt vt B hu
    obtain ⟨_, rfl⟩ := some_map_of hm
    split at h
    · rename_i es clock hB
      obtain ⟨ces, hb, hsz, hc⟩ := map_at hi hB
      split at h
      · rename_i hcond
        simp only [Bool.and_eq_true, Nat.ble_eq] at hcond
        obtain ⟨rfl, hkf, hck⟩ := keyOk_sound hcond.1 hk
        split at h
        · rename_i i hf
          obtain ⟨hfind, hlt⟩ := find_sound hsz hc hf w
          split at h
          · rename_i en hen
            split at h
            · rename_i hsb
              simp only [Option.some.injEq] at h; subst h
              obtain ⟨cen, g1, g2, g3, g4, g5⟩ := hc i en hen
              have hrel : EntsRel e A.next (es.set i { en with key := k', val := v }) (ces.modify i fun x => { x with key := k', val := v' }) :=
                EntsRel.modify ⟨hsz, hc⟩ hen (fun c _ hc => ⟨hkf, rfl, hc.2.2.1, hv⟩)
              have hp := putMap_sound (clock' := clock) hi hB hcond.2 hb hrel
              refine ⟨_, ?_, hp.1, hp.2⟩
              simp only [Instr.mapUpdate, Sem.run_bind, run_under hu, Result.andThen_ok, getObj_run hb (by simp), hck w, hfind, Option.map_some, g1, Option.getD_some, g3,
                Instr.keyThatStays, hsb, if_true, Sem.run_pure, setObj_run hb (by simp)]
            · cases h
          · cases h
        · rename_i hf
          obtain ⟨hfind, _⟩ := find_sound hsz hc hf w
          simp only [Option.some.injEq] at h; subst h
          have hrel : EntsRel e A.next (es ++ [{ key := k', val := v, born := clock }]) (ces.push { key := k', val := v', born := clock }) :=
            EntsRel.push ⟨hsz, hc⟩ ⟨hkf, rfl, rfl, hv⟩
          have hp := putMap_sound (clock' := clock + 1) hi hB hcond.2 hb hrel
          refine ⟨_, ?_, hp.1, hp.2⟩
          simp only [Instr.mapUpdate, Sem.run_bind, run_under hu, Result.andThen_ok, getObj_run hb (by simp), hck w, hfind, Option.map_none, setObj_run hb (by simp)]
        · cases h
      · cases h
    · cases h
  · cases h
theorem mapEntry_sound (hi : Inv e A w) {t : TypeId} {m m' k k' v : Value} {A' : AS} (h : aMapEntry P A t m k = some (v, A')) (hm : VR e A.next m m')
    (hk : VR e A.next k k') : OkV P e A w (Instr.mapEntry t m' k') v A' := by
  unfold aMapEntry at h
  split at h
  · rename_i kt vt B hu
    obtain ⟨_, rfl⟩ := some_map_of hm
    split at h
    · rename_i es clock hB
      obtain ⟨ces, hb, hsz, hc⟩ := map_at hi hB
      split at h
      · rename_i hcond
        simp only [Bool.and_eq_true, Nat.ble_eq] at hcond
        obtain ⟨rfl, hkf, hck⟩ := keyOk_sound hcond.1 hk
        split at h
        · rename_i i hf
          obtain ⟨hfind, hlt⟩ := find_sound hsz hc hf w
          split at h
          · rename_i en hen
            split at h
            · rename_i hsb
              simp only [Option.some.injEq, Prod.mk.injEq] at h
              obtain ⟨rfl, rfl⟩ := h
              obtain ⟨cen, g1, g2, g3, g4, g5⟩ := hc i en hen
              have hrel : EntsRel e A.next (es.set i { en with key := k' }) (ces.modify i fun x => { x with key := k' }) :=
                EntsRel.modify ⟨hsz, hc⟩ hen (fun c _ hc => ⟨hkf, rfl, hc.2.2.1, hc.2.2.2⟩)
              have hp := putMap_sound (clock' := clock) hi hB hcond.2 hb hrel
              refine ⟨e, _, .tuple #[cen.val, .int .i64 en.born], ?_, hp.1, hp.2, .tuple (.cons g5 (.cons (.flat rfl) .nil))⟩
              simp only [Instr.mapEntry, Sem.run_bind, run_under hu, Result.andThen_ok, getObj_run hb (by simp), hck w, hfind, Option.map_some, g1, Option.getD_some, g3, g4,
                Instr.keyThatStays, hsb, if_true, Sem.run_pure, setObj_run hb (by simp), goInt]
            · cases h
          · cases h
        · rename_i hf
          obtain ⟨hfind, _⟩ := find_sound hsz hc hf w
          split at h
          · rename_i z hz
            split at h
            · rename_i hzf
              simp only [Option.some.injEq, Prod.mk.injEq] at h
              obtain ⟨rfl, rfl⟩ := h
              have hrel : EntsRel e A.next (es ++ [{ key := k', val := z, born := clock }]) (ces.push { key := k', val := z, born := clock }) :=
                EntsRel.push ⟨hsz, hc⟩ ⟨hkf, rfl, rfl, .flat hzf⟩
              have hp := putMap_sound (clock' := clock + 1) hi hB hcond.2 hb hrel
              refine ⟨e, _, .tuple #[z, .int .i64 clock], ?_, hp.1, hp.2, .tuple (.cons (.flat hzf) (.cons (.flat rfl) .nil))⟩
              simp only [Instr.mapEntry, Sem.run_bind, run_under hu, Result.andThen_ok, getObj_run hb (by simp), hck w, hfind, Option.map_none, run_zero hz, setObj_run hb (by simp), Sem.run_pure, goInt]
            · cases h
          · cases h
        · cases h
      · cases h
    · cases h
  · cases h
theorem EntsRel.map_same {β : Type} {n : Nat} {es : List MapEntry} {ces : Array MapEntry} (h : EntsRel e n es ces) (p q : MapEntry → β) (hpq : ∀ a b, EntRel e n a b → q b = p a) :
    ces.toList.map q = es.map p := by
  apply List.ext_getElem?
  intro i
  rw [List.getElem?_map, List.getElem?_map]
  cases hi : es[i]? with
  | none =>
    have : ces.toList.length ≤ i := by
      have := List.getElem?_eq_none_iff.1 hi
      have := h.1
      simp; omega
    simp [List.getElem?_eq_none this]
  | some en =>
    obtain ⟨cen, h1, h2⟩ := h.2 i en hi
    have h1' : ces.toList[i]? = some cen := by simpa using h1
    rw [h1']
    simp [hpq en cen h2]
theorem findIdx_same {p q : MapEntry → Bool} {n : Nat} {es : List MapEntry} {ces : Array MapEntry} (h : EntsRel e n es ces) (hpq : ∀ a b, EntRel e n a b → q b = p a) :
    ces.findIdx? q = es.findIdx? p := by
  have h1 : ces.findIdx? q = ces.toList.findIdx? q := by
    cases ces with
    | mk l => exact List.findIdx?_toArray q l
  have h2 : ∀ (l : List MapEntry) (f : MapEntry → Bool), l.findIdx? f = (l.map f).findIdx? id := by
    intro l f; rw [List.findIdx?_map]; rfl
  rw [h1, h2, h2, h.map_same p q hpq]
theorem entryStore_sound (hi : Inv e A w) {t : TypeId} {m m' s s' v v' : Value} {A' : AS} (h : aEntryStore A m s v = some A') (hm : VR e A.next m m')
    (hs : VR e A.next s s') (hv : VR e A.next v v') :
    ∃ w', (Instr.entryStore t m' s' v').run P w = .ok () w' ∧ Inv e A' w' ∧ Step e A w e A' w' := by
  unfold aEntryStore at h
  split at h
  · rename_i B k n
    obtain ⟨_, rfl⟩ := some_map_of hm
    rw [int_of hs]
    split at h
    · rename_i es clock hB
      obtain ⟨ces, hb, hsz, hc⟩ := map_at hi hB
      split at h
      · rename_i hro
        simp only [Nat.ble_eq] at hro
        split at h
        · rename_i i hf
          split at h
          · rename_i en hen
            simp only [Option.some.injEq] at h; subst h
            have hrel : EntsRel e A.next (es.set i { en with val := v }) (ces.modify i fun x => { x with val := v' }) :=
              EntsRel.modify ⟨hsz, hc⟩ hen (fun c _ hc => ⟨hc.1, hc.2.1, hc.2.2.1, hv⟩)
            have hp := putMap_sound (clock' := clock) hi hB hro hb hrel
            have hfi : ces.findIdx? (fun x => (x.born : Int) == n) = some i := by
              rw [← hf]
              exact findIdx_same (e := e) (n := A.next) ⟨hsz, hc⟩ (fun a b hab => by rw [hab.2.2.1]; rfl)
            refine ⟨_, ?_, hp.1, hp.2⟩
            simp only [Instr.entryStore, Sem.run_bind, Result.andThen_ok, getObj_run hb (by simp), asInt, asIntOf, Sem.run_pure, hfi, setObj_run hb (by simp)]
          · cases h
        · cases h
      · cases h
    · cases h
  · cases h
theorem delete_sound (hi : Inv e A w) {argTypes : Array TypeId} {ty : TypeId} {m m' k k' : Value} {A' : AS} (h : aDelete P A argTypes m k = some A') (hm : VR e A.next m m')
    (hk : VR e A.next k k') : ∃ w', (Builtin.delete_ argTypes ty #[m', k']).run P w = .ok (.tuple #[]) w' ∧ Inv e A' w' ∧ Step e A w e A' w' := by
  unfold aDelete at h
  split at h
  · rename_i t h0
    split at h
    · rename_i kt vt B hu
      obtain ⟨_, rfl⟩ := some_map_of hm
      split at h
      · rename_i es clock hB
        obtain ⟨ces, hb, hsz, hc⟩ := map_at hi hB
        split at h
        · rename_i hcond
          simp only [Bool.and_eq_true, Nat.ble_eq] at hcond
          have hemp : ces.isEmpty = es.isEmpty := by
            rw [Bool.eq_iff_iff]; simp [Array.isEmpty_iff, List.isEmpty_iff, ← Array.size_eq_zero_iff, ← List.length_eq_zero_iff, hsz]
          obtain ⟨rfl, hkf, hck⟩ := keyOk_sound hcond.1 hk
          rw [← hemp] at hck
          split at h
          · rename_i i hf
            obtain ⟨hfind, hlt⟩ := find_sound hsz hc hf w
            simp only [Option.some.injEq] at h; subst h
            have hrel : EntsRel e A.next (es.eraseIdx i) (ces.eraseIdxIfInBounds i) := EntsRel.erase ⟨hsz, hc⟩ (hlt i rfl)
            have hp := putMap_sound (clock' := clock) hi hB hcond.2 hb hrel
            refine ⟨_, ?_, hp.1, hp.2⟩
            simp only [Builtin.delete_, h0, List.getElem?_toArray, List.getElem?_cons_zero, List.getElem?_cons_succ, Sem.run_bind, run_under hu, Result.andThen_ok, getObj_run hb (by simp), hck w, hfind, Option.map_some,
              setObj_run hb (by simp), Sem.run_pure]
          · rename_i hf
            obtain ⟨hfind, _⟩ := find_sound hsz hc hf w
            simp only [Option.some.injEq] at h; subst h
            have hp := putMap_sound (clock' := clock) hi hB hcond.2 hb (es' := es) (ces' := ces) ⟨hsz, hc⟩
            refine ⟨_, ?_, hp.1, hp.2⟩
            simp only [Builtin.delete_, h0, List.getElem?_toArray, List.getElem?_cons_zero, List.getElem?_cons_succ, Sem.run_bind, run_under hu, Result.andThen_ok, getObj_run hb (by simp), hck w, hfind, Option.map_none,
              setObj_run hb (by simp), Sem.run_pure]
          · cases h
        · cases h
      · cases h
    · cases h
  · cases h
theorem range_sound (hi : Inv e A w) {t : TypeId} {x x' v : Value} {A' : AS} (h : aRange P A t x = some (v, A')) (hx : VR e A.next x x') :
    OkV P e A w (Instr.range t x') v A' := by
  unfold aRange at h
  have hptr : ∀ e' : Env, e'.loc A.next = w.heap.size → e'.off A.next = 0 → VR e' (A.next + 1) (.pointer (some ⟨A.next, 0, none⟩)) (.pointer (some ⟨w.heap.size, 0, none⟩)) := by
    intro e' h1 h2
    have := VR.ptr (e := e') (n := A.next + 1) (B := A.next) (o := 0) (Nat.lt_succ_self _)
    rw [h1, h2] at this
    exact this
  split at h
  · rename_i s hu
    simp only [Option.some.injEq, Prod.mk.injEq] at h
    obtain ⟨rfl, rfl⟩ := h
    rw [string_of hx]
    obtain ⟨g1, g2⟩ := new_sound hi (.siter s 0) (.stringIter s 0) 0 ⟨by simp [Env.bind], by simp only [Env.bind, if_true]; exact push_get_eq w _⟩
    refine ⟨_, _, _, ?_, g1, g2, hptr _ (by simp [Env.bind]) (by simp [Env.bind])⟩
    simp only [Instr.range, Sem.run_bind, run_under hu, Result.andThen_ok, Sem.run_pure, run_newObj]
    rfl
  · rename_i k vt hu
    simp only [Option.some.injEq, Prod.mk.injEq] at h
    obtain ⟨rfl, rfl⟩ := h
    rw [nil_map_of hx]
    obtain ⟨g1, g2⟩ := new_sound hi (.miter none 0 #[] 0) (.mapIter none 0 #[] 0) 0 ⟨by simp [Env.bind], (fun b hb => by cases hb), by simp only [Env.bind, if_true]; exact push_get_eq w _⟩
    refine ⟨_, _, _, ?_, g1, g2, hptr _ (by simp [Env.bind]) (by simp [Env.bind])⟩
    simp only [Instr.range, Sem.run_bind, run_under hu, Result.andThen_ok, Sem.run_pure, run_newObj]
    rfl
  · rename_i k vt B hu
    split at h
    · rename_i es clock hB
      simp only [Option.some.injEq, Prod.mk.injEq] at h
      obtain ⟨rfl, rfl⟩ := h
      obtain ⟨hlt, rfl⟩ := some_map_of hx
      obtain ⟨ces, hb, _, _⟩ := map_at hi hB
      obtain ⟨g1, g2⟩ := new_sound hi (.miter (some B) clock #[] clock) (.mapIter (some (e.loc B)) clock #[] clock) 0 ⟨by simp [Env.bind], (fun b hb => by simp at hb; omega), by
        have hne : B ≠ A.next := by omega
        simp only [Env.bind, if_true, Option.map_some, hne, if_false]
        exact push_get_eq w _⟩
      refine ⟨_, _, _, ?_, g1, g2, hptr _ (by simp [Env.bind]) (by simp [Env.bind])⟩
      simp only [Instr.range, Sem.run_bind, run_under hu, Result.andThen_ok, Sem.run_pure, run_newObj, getObj_run hb (by simp)]
      rfl
    · cases h
  · cases h
theorem ptr0_of {n B : Nat} {x' : Value} (h : VR e n (.pointer (some ⟨B, 0, none⟩)) x') : B < n ∧ x' = .pointer (some ⟨e.loc B, e.off B, none⟩) := by
  have := ptr_of h
  simpa using this
theorem EntsRel.filter {n : Nat} {es : List MapEntry} {ces : Array MapEntry} (h : EntsRel e n es ces) (p q : MapEntry → Bool) (hpq : ∀ a b, EntRel e n a b → q b = p a) :
    EntsRel e n (es.filter p) (ces.filter q) := by
  have key : ∀ (es : List MapEntry) (cs : List MapEntry), EntsRel e n es cs.toArray → EntsRel e n (es.filter p) (cs.filter q).toArray := by
    intro es
    induction es with
    | nil =>
      intro cs h
      have : cs = [] := by have := h.1; simpa using this
      subst this
      exact ⟨rfl, fun i en h => by simp at h⟩
    | cons en es ih =>
      intro cs h
      cases cs with
      | nil => have := h.1; simp at this
      | cons c cs =>
        have h0 : EntRel e n en c := by
          obtain ⟨c', h1, h2⟩ := h.2 0 en rfl
          simp at h1; subst h1; exact h2
        have ht : EntsRel e n es cs.toArray := by
          refine ⟨by have := h.1; simpa using this, fun i x hx => ?_⟩
          obtain ⟨c', h1, h2⟩ := h.2 (i + 1) x (by simpa using hx)
          exact ⟨c', by simpa using h1, h2⟩
        have ih' := ih cs ht
        simp only [List.filter_cons, hpq en c h0]
        cases p en with
        | false => simpa using ih'
        | true =>
          simp only [if_true]
          refine ⟨by have := ih'.1; simpa using this, fun i x hx => ?_⟩
          cases i with
          | zero => simp at hx; subst hx; exact ⟨c, rfl, h0⟩
          | succ i =>
            obtain ⟨c', h1, h2⟩ := ih'.2 i x (by simpa using hx)
            exact ⟨c', by simpa using h1, h2⟩
  have := key es ces.toList (by simpa using h)
  have hf : (ces.toList.filter q).toArray = ces.filter q := by
    apply Array.ext'; simp
  rwa [hf] at this
theorem EntsRel.nil_of {n : Nat} {ces : Array MapEntry} (h : EntsRel e n [] ces) : ces = #[] := by
  have := h.1
  simp at this
  simpa using this
theorem EntsRel.one_of {n : Nat} {en : MapEntry} {ces : Array MapEntry} (h : EntsRel e n [en] ces) : ∃ c, ces = #[c] ∧ EntRel e n en c := by
  obtain ⟨c, h1, h2⟩ := h.2 0 en rfl
  refine ⟨c, ?_, h2⟩
  apply Array.ext
  · exact h.1
  · intro i hi1 hi2
    have : i = 0 := by have := h.1; simp at this hi2; omega
    subst this
    simp [Array.getElem?_eq_getElem hi1] at h1
    simpa using h1
theorem next_sound (hi : Inv e A w) {it it' v : Value} {s : Bool} {ty : TypeId} {A' : AS} (h : aNext A it s = some (v, A')) (hit : VR e A.next it it') :
    OkV P e A w (Instr.next it' s ty) v A' := by
  unfold aNext at h
  split at h
  · rename_i B
    obtain ⟨hlt, rfl⟩ := ptr0_of hit
    split at h
    · rename_i str pos hB
      have ho := hi.obj B _ hB
      have hoff := ho.1
      have hb := ho.2
      split at h
      · rename_i hpos
        simp only [Nat.blt_eq] at hpos
        simp only at h
        split at h
        · rename_i hro
          simp only [Nat.ble_eq] at hro
          simp only [Option.some.injEq, Prod.mk.injEq] at h
          obtain ⟨rfl, rfl⟩ := h
          have hp := putObj_sound hi hB hro hb (oa' := .siter str (pos + (Utf8.decode str pos).2)) (o' := .stringIter str (pos + (Utf8.decode str pos).2)) ⟨hoff, (heap_set hb).1⟩
          refine ⟨e, _, _, ?_, hp.1, hp.2, .flat (v := .tuple #[.bool true, .int .i64 pos, .int .i32 (Utf8.decode str pos).1]) (by simp [Dp.flat, scalar])⟩
          simp only [Instr.next, hoff, Sem.run_bind, getObj_run hb (by simp), Result.andThen_ok]
          rw [if_pos hpos]
          simp only [Sem.run_bind, setObj_run hb (by simp), Result.andThen_ok, Sem.run_pure, goInt]
        · cases h
      · rename_i hpos
        simp only [Nat.blt_eq] at hpos
        simp only [Option.some.injEq, Prod.mk.injEq] at h
        obtain ⟨rfl, rfl⟩ := h
        refine OkV.same hi (v' := .tuple #[.bool false]) ?_ (.flat (by simp [Dp.flat, scalar]))
        simp only [Instr.next, hoff, Sem.run_bind, getObj_run hb (by simp), Result.andThen_ok]
        rw [if_neg hpos]
        rfl
    · rename_i a b c hB
      have ho := hi.obj B _ hB
      have hoff := ho.1
      have hb := ho.2.2
      simp only [Option.some.injEq, Prod.mk.injEq] at h
      obtain ⟨rfl, rfl⟩ := h
      refine OkV.same hi (v' := .tuple #[.bool false]) ?_ (.flat (by simp [Dp.flat, scalar]))
      simp only [Instr.next, hoff, Sem.run_bind, getObj_run hb (by simp), Result.andThen_ok, Option.map_none]
      rfl
    · rename_i m since seen last hB
      have ho := hi.obj B _ hB
      have hoff := ho.1
      have hb := ho.2.2
      simp only [Option.map_some] at hb
      split at h
      · rename_i es clock hm
        obtain ⟨ces, hbm, hsz, hc⟩ := map_at hi hm
        have hrel : EntsRel e A.next es ces := ⟨hsz, hc⟩
        split at h
        · cases h
        · rename_i hbar
          have hemp : ces.isEmpty = es.isEmpty := by
            rw [Bool.eq_iff_iff]; simp [Array.isEmpty_iff, List.isEmpty_iff, ← Array.size_eq_zero_iff, ← List.length_eq_zero_iff, hsz]
          have hall : ces.all (fun x => decide (x.born ≥ last)) = es.all (fun x => Nat.ble last x.born) := by
            have h1 := hrel.map_same (fun x => Nat.ble last x.born) (fun x => decide (x.born ≥ last)) (fun a b hab => by
              rw [hab.2.2.1, Bool.eq_iff_iff]; simp)
            have h2 : ∀ {β : Type} (l : List β) (f : β → Bool), l.all f = (l.map f).all id := by intro β l f; simp
            rw [← Array.all_toList, h2, h1, ← h2]
          have hbar' : ¬ ((!seen.isEmpty && !ces.isEmpty && ces.all fun x => decide (x.born ≥ last)) = true) := by
            rw [hemp, hall]; exact hbar
          have hleft := hrel.filter (fun x => !seen.contains x.born) (fun x => !seen.contains x.born) (fun a b hab => by rw [hab.2.2.1])
          have hold' := hleft.filter (fun x => Nat.blt x.born since) (fun x => decide (x.born < since)) (fun a b hab => by
            rw [hab.2.2.1, Bool.eq_iff_iff]; simp)
          simp only at h
          generalize es.filter (fun x => !seen.contains x.born) = left at h hleft hold'
          generalize hcl : ces.filter (fun x => !seen.contains x.born) = cleft at hleft hold'
          generalize hog : left.filter (fun x => Nat.blt x.born since) = old at h hold'
          generalize hco : cleft.filter (fun x => decide (x.born < since)) = cold at hold'
          split at h
          · simp only [Option.some.injEq, Prod.mk.injEq] at h
            obtain ⟨rfl, rfl⟩ := h
            have e1 := hleft.nil_of
            refine OkV.same hi (v' := .tuple #[.bool false]) ?_ (.flat (by simp [Dp.flat, scalar]))
            simp only [Instr.next, hoff, Sem.run_bind, getObj_run hb (by simp), getObj_run hbm (by simp), Result.andThen_ok]
            rw [if_neg hbar']
            simp only [hcl, e1]
            simp [run_choose, Question.forced]
          · rename_i en one
            split at h
            · rename_i hro
              simp only [Nat.ble_eq] at hro
              simp only [Option.some.injEq, Prod.mk.injEq] at h
              obtain ⟨rfl, rfl⟩ := h
              have hen : one = en ∧ en.born < since := by
                have : en ∈ [one].filter (fun x => Nat.blt x.born since) := by rw [hog]; simp
                rw [List.mem_filter] at this
                simp at this
                exact ⟨this.1.symm, this.2⟩
              obtain ⟨rfl, hborn⟩ := hen
              obtain ⟨c, hcl1, hcr⟩ := hleft.one_of
              obtain ⟨c', hco1, _⟩ := hold'.one_of
              have hcc : c' = c := by
                have : c' ∈ cleft.filter (fun x => decide (x.born < since)) := by rw [hco, hco1]; simp
                rw [Array.mem_filter, hcl1] at this
                simpa using this.1
              subst hcc
              have hnew : cleft.filter (fun x => decide (x.born ≥ since)) = #[] := by
                rw [hcl1]
                have : ¬ (c'.born ≥ since) := by rw [hcr.2.2.1]; omega
                simp [this]
              have hp := putObj_sound hi hB hro hb (oa' := .miter (some m) since (seen.push one.born) clock) (o' := .mapIter (some (e.loc m)) since (seen.push one.born) clock)
                ⟨hoff, ho.2.1, (heap_set hb).1⟩
              refine ⟨e, _, .tuple #[.bool true, c'.key, c'.val], ?_, hp.1, hp.2, .tuple (.cons (.flat rfl) (.cons (by rw [hcr.2.1]; exact .flat hcr.1) (.cons hcr.2.2.2 .nil)))⟩
              simp only [Instr.next, hoff, Sem.run_bind, getObj_run hb (by simp), getObj_run hbm (by simp), Result.andThen_ok]
              rw [if_neg hbar']
              simp only [hcl, hco, hco1, hnew]
              simp [run_choose, Question.forced, setObj_run hb, hcr.2.2.1]
            · cases h
          · cases h
      · cases h
    · cases h
  · cases h
theorem entry_sound (hi : Inv e A w) {it it' v : Value} (h : aEntry A it = some v) (hit : VR e A.next it it') :
    OkV P e A w (Instr.entry it') v A := by
  unfold aEntry at h
  split at h
  · rename_i B
    obtain ⟨hlt, rfl⟩ := ptr0_of hit
    split at h
    · rename_i m since seen stepped hB
      have ho := hi.obj B _ hB
      have hoff := ho.1
      have hb := ho.2.2
      simp only [Option.map_some] at hb
      split at h
      · rename_i stamp es clock hst hm
        obtain ⟨ces, hbm, hsz, hc⟩ := map_at hi hm
        have hrel : EntsRel e A.next es ces := ⟨hsz, hc⟩
        split at h
        · rename_i hclk
          simp only [Nat.beq_eq] at hclk
          split at h
          · rename_i en hf
            simp only [Option.some.injEq] at h; subst h
            have hfind : ∃ cen, ces.find? (fun x => x.born == stamp) = some cen ∧ EntRel e A.next en cen := by
              have key : ∀ (es : List MapEntry) (cs : List MapEntry), EntsRel e A.next es cs.toArray → es.find? (fun x => Nat.beq x.born stamp) = some en → ∃ cen, cs.find? (fun x => x.born == stamp) = some cen ∧ EntRel e A.next en cen := by
                intro es
                induction es with
                | nil => intro cs _ h; simp at h
                | cons x es ih =>
                  intro cs hr h
                  cases cs with
                  | nil => have := hr.1; simp at this
                  | cons c cs =>
                    have h0 : EntRel e A.next x c := by
                      obtain ⟨c', h1, h2⟩ := hr.2 0 x rfl
                      simp at h1; subst h1; exact h2
                    have ht : EntsRel e A.next es cs.toArray := by
                      refine ⟨by have := hr.1; simpa using this, fun i y hy => ?_⟩
                      obtain ⟨c', h1, h2⟩ := hr.2 (i + 1) y (by simpa using hy)
                      exact ⟨c', by simpa using h1, h2⟩
                    have hq : (c.born == stamp) = Nat.beq x.born stamp := by rw [h0.2.2.1, Bool.eq_iff_iff]; simp
                    simp only [List.find?_cons, hq] at h ⊢
                    cases hqq : Nat.beq x.born stamp with
                    | true => rw [hqq] at h; simp at h; subst h; exact ⟨c, rfl, h0⟩
                    | false => rw [hqq] at h; exact ih cs ht h
              obtain ⟨cen, h1, h2⟩ := key es ces.toList (by simpa using hrel) hf
              exact ⟨cen, by rw [← Array.find?_toList]; exact h1, h2⟩
            obtain ⟨cen, hf', hcr⟩ := hfind
            refine OkV.same hi (v' := .tuple #[cen.key, cen.val]) ?_ (.tuple (.cons (by rw [hcr.2.1]; exact .flat hcr.1) (.cons hcr.2.2.2 .nil)))
            have hne : (clock != stepped) = false := by simp [hclk]
            simp only [Instr.entry, hoff, Sem.run_bind, getObj_run hb (by simp), getObj_run hbm (by simp), Result.andThen_ok, hst, hne, hf']
            rfl
          · cases h
        · cases h
      · cases h
    · cases h
  · cases h
end Go.Dp
namespace Go.Dp
open Go
variable {P : Program} {e : Env} {A : AS} {w : World}
def byteStep (c : Value) (s : ByteArray) : Sem (ForInStep ByteArray) :=
  match c with
  | .int .u8 n => pure (ForInStep.yield (s.push (UInt8.ofNat n.toNat)))
  | _ => do
    stuck (α := Unit) "bytesToString: byte expected"
    pure (ForInStep.yield s)
theorem bytes_loop : ∀ (l : List Value) (s r : ByteArray), bytesOf l s = some r → ∀ w : World, (forIn l s byteStep).run P w = .ok r w
  | [], s, r, h, w => by simp only [bytesOf, Option.some.injEq] at h; subst h; rfl
  | x :: xs, s, r, h, w => by
    unfold bytesOf at h
    split at h
    · rename_i hh; cases hh
    · rename_i n vs hh
      simp only [List.cons.injEq] at hh
      obtain ⟨rfl, rfl⟩ := hh
      simp only [List.forIn_cons, byteStep, Sem.run_bind, Sem.run_pure, Result.andThen_ok]
      exact bytes_loop _ _ _ h w
    · cases h
theorem bytesOf_rel {n : Nat} : ∀ {l us : List Value} {s r : ByteArray}, bytesOf l s = some r → VRs e n l us → bytesOf us s = some r
  | _, _, s, r, h, .nil => h
  | x :: xs, y :: ys, s, r, h, .cons a t => by
    unfold bytesOf at h
    split at h
    · rename_i hh; cases hh
    · rename_i k vs hh
      simp only [List.cons.injEq] at hh
      obtain ⟨rfl, rfl⟩ := hh
      rw [int_of a]
      unfold bytesOf
      exact bytesOf_rel h t
    · cases h
theorem convert_sound (hi : Inv e A w) {src dst : TypeId} {x x' v : Value} {A' : AS} (h : aConvert P A src dst x = some (v, A')) (hx : VR e A.next x x') :
    OkV P e A w (convert src dst x') v A' := by
  unfold aConvert at h
  split at h
  · rename_i el B o len c hu hu2
    obtain ⟨_, rfl⟩ := slice_of hx
    split at h
    · rename_i cs z ex hel hB
      split at h
      · rename_i l hp
        split at h
        · rename_i s hs
          simp only [Option.some.injEq, Prod.mk.injEq] at h
          obtain ⟨rfl, rfl⟩ := h
          obtain ⟨ys, hys, hc⟩ := rows_of hi hB
          obtain ⟨hr, hl⟩ := piece_rel hys hp
          refine OkV.same hi (v' := .string s) ?_ (.flat (by simp [Dp.flat, scalar]))
          have hb := bytesOf_rel hs hr
          have hloop := bytes_loop (P := P) _ _ _ hb w
          simp only [convert, Sem.run_bind, run_under hu, run_under hu2, Result.andThen_ok, run_under hel, Conv.bytesToString, run_piece hc hl]
          rw [← Array.forIn_toList]
          refine (congrArg (fun r => Result.andThen r _) hloop).trans ?_
          rfl
        · cases h
      · cases h
    · cases h
  · rename_i el s hu hu2
    rw [string_of hx]
    split at h
    · rename_i hel
      simp only [Option.some.injEq, Prod.mk.injEq] at h
      obtain ⟨rfl, rfl⟩ := h
      let q := Question.appendCap s.size 0 el
      let room := q.cut (w.tape w.drawn q)
      have hle : s.size ≤ room := by simp [room, q, Question.cut]
      let elems : Array Value := s.data.map fun b => .int .u8 b.toNat
      let arr : Array Value := elems ++ Array.replicate (room - s.size) (.int .u8 0)
      have hes : elems.size = s.size := by show (s.data.map _).size = s.data.size; simp
      have hsz : arr.size = room := by simp [arr, hes]; omega
      let w1 : World := { w with drawn := w.drawn + 1 }
      have hd : Inv e A w1 := hi.drawn (w.drawn + 1)
      have hfits : ObjAt (e.bind A.next w1.heap.size 0 (room - s.size)) (A.next + 1) A.ro (w1.push (.cells arr el (room, room + 1))) A.next
          (.cells (s.data.toList.map fun b => .int .u8 b.toNat) 1 true) := by
        have hl : (s.data.toList.map fun b => Value.int .u8 b.toNat).length = s.size := by show _ = s.data.size; simp
        refine ⟨arr, el, (room, room + 1), by simp only [Env.bind, if_true]; exact push_get_eq w1 _, (fun h => by cases h), ?_, ?_, ?_⟩
        · simp only [Env.bind, if_true, hl, hsz]; omega
        · intro i v hv
          have hlt : i < s.size := by
            rcases Nat.lt_or_ge i s.size with h | h
            · exact h
            · rw [List.getElem?_eq_none (by omega)] at hv; cases hv
          refine ⟨v, ?_, .flat ?_⟩
          · simp only [Env.bind, if_true, Nat.zero_add, arr]
            rw [Array.getElem?_append, if_pos (by omega), ← hv]
            simp [elems]
          · rw [List.getElem?_map] at hv
            cases hq : s.data.toList[i]? with
            | none => simp [hq] at hv
            | some b => simp [hq] at hv; subst hv; rfl
        · intro _ j h1 h2
          simp only [Env.bind, if_true, hl] at h1 h2
          simp; omega
      obtain ⟨g1, g2⟩ := new_sound hd _ _ _ hfits
      refine ⟨_, _, _, ?_, g1, (Step.drawn e A w (w.drawn + 1)).trans g2, grown_slice (b := w1.heap.size) (room := room) (Nat.lt_succ_self _) (by simp [Env.bind]) (by simp [Env.bind]) (by simp [Env.bind]) hle⟩
      have hch : (choose q).run P w = .ok room w1 := by rw [run_choose]; simp [q, Question.forced, room, w1]
      have hsh : ({ w1 with heap := w1.heap.push (.cells arr el) } : World).shape? w1.heap.size = some (el, room) := by
        simp [World.shape?, hsz]
      have hfr : ({ w1 with heap := w1.heap.push (.cells arr el) } : World).freeze { block := w1.heap.size, off := room } 1 = w1.push (.cells arr el (room, room + 1)) := by
        simp only [World.freeze, World.push]
        rw [if_neg (by decide)]
        congr 1
        apply Array.ext_getElem?
        intro i
        rw [Array.getElem?_modify]
        simp only [Array.getElem?_push]
        by_cases hi' : w1.heap.size = i
        · subst hi'; simp
        · simp [hi', Ne.symm hi']
      simp only [convert, Sem.run_bind, run_under hu, run_under hu2, Result.andThen_ok, run_under hel, Conv.stringToBytes]
      rw [show (choose (.appendCap s.size 0 el)).run P w = _ from hch]
      simp only [Result.andThen_ok, newRow, Sem.run_bind, run_newObj, Sem.run_pure, markStringish, run_shape]
      rw [show World.shape? _ _ = _ from hsh]
      simp only [run_freeze, Result.andThen_ok]
      rw [show World.freeze _ _ 1 = _ from hfr]
    · cases h
  · cases h
end Go.Dp
namespace Go.Dp
open Go
variable {P : Program} {e : Env} {A : AS} {w : World}
def DRel (e : Env) (n : Nat) (d d' : Deferred) : Prop :=
  ∃ g cap cap', d.target = .fn (.func g) cap ∧ d'.target = .fn (.func g) cap' ∧ VRs e n cap.toList cap'.toList ∧ VRs e n d.args.toList d'.args.toList
def NRel (P : Program) (e : Env) (A : AS) (w : World) (s : Sem Next) : ANext → AS → Prop
  | .value v, A' => ∃ e' w' v', s.run P w = .ok (.value v') w' ∧ Inv e' A' w' ∧ Step e A w e' A' w' ∧ VR e' A'.next v v'
  | .skip, A' => ∃ e' w', s.run P w = .ok .skip w' ∧ Inv e' A' w' ∧ Step e A w e' A' w'
  | .enter f args, A' => A' = A ∧ ∃ args', s.run P w = .ok (.enter f args') w ∧ VRs e A.next args args'.toList ∧ hasBody P f = true
  | .defer d, A' => A' = A ∧ ∃ d', s.run P w = .ok (.defer d') w ∧ DRel e A.next d d'
  | .round L args, A' => A' = A ∧ ∃ fn t nt params assign body st pend dl, A.get L = some (.loop fn t nt params assign body st pend dl) ∧
      ∃ (args' tmps : Array Value), TmpsRel e A.next t nt tmps ∧ VRs e A.next args args'.toList ∧ params.size = args.length ∧
        s.run P w = .ok (.round (e.loc L) fn ((params.zip args').foldl (fun tmps (t, a) => tmps.setIfInBounds t a) tmps) assign body) w
theorem NRel.of_value {s : Sem Value} {v : Value} {A' : AS} (h : OkV P e A w s v A') : NRel P e A w (do pure (.value (← s))) (.value v) A' := by
  obtain ⟨e', w', v', h1, h2, h3, h4⟩ := h
  exact ⟨e', w', v', by simp [h1], h2, h3, h4⟩
theorem NRel.of_skip {s : Sem Unit} {A' : AS} (h : ∃ w', s.run P w = .ok () w' ∧ Inv e A' w' ∧ Step e A w e A' w') : NRel P e A w (do s; pure .skip) .skip A' := by
  obtain ⟨w', h1, h2, h3⟩ := h
  exact ⟨e, w', by simp [h1], h2, h3⟩
theorem VRs.map_ops {n : Nat} {ρ ρ' : Operand → Value} (hr : ∀ x, VR e n (ρ x) (ρ' x)) : ∀ (l : List Operand), VRs e n (l.map ρ) (l.map ρ')
  | [] => .nil
  | x :: l => .cons (hr x) (VRs.map_ops hr l)
theorem callFunc_run {f : FuncId} (h : hasBody P f = true) (args : Array Value) (w : World) : (callFunc f args).run P w = .ok (.enter f args) w := by
  unfold hasBody at h
  split at h
  · rename_i fn hf
    simp only [Bool.and_eq_true, bne_iff_ne] at h
    have hn : (fn.name == "runtime.NumGoroutine") = false := by simpa using h.2
    have hb : fn.body.isNone = false := by
      cases hq : fn.body with
      | none => simp [hq] at h
      | some c => rfl
    simp only [callFunc, Sem.run_bind, run_program, Result.andThen_ok, hf, hn, hb]
    rfl
  · cases h
theorem resolve_rel {f f' : Value} {args args' : List Value} {g : FuncId} {as : List Value} (h : aResolve f args = some (g, as)) (hf : VR e A.next f f') (ha : VRs e A.next args args') :
    ∃ first captured : Array Value, f' = .func (.func g) first captured ∧ VRs e A.next as (first.toList ++ args' ++ captured.toList) := by
  unfold aResolve at h
  split at h
  · rename_i g' first captured
    simp only [Option.some.injEq, Prod.mk.injEq] at h
    obtain ⟨rfl, rfl⟩ := h
    cases hf with
    | flat hfl =>
      refine ⟨first, captured, rfl, ?_⟩
      simp only [Dp.flat, scalar, Bool.and_eq_true, beq_iff_eq, Array.size_eq_zero_iff] at hfl
      obtain ⟨h1, h2⟩ := hfl
      subst h1 h2
      simpa using ha
    | func h1 h2 => exact ⟨_, _, rfl, (h1.append ha).append h2⟩
  · cases h
theorem special_sound (hi : Inv e A w) {ρ ρ' : Operand → Value} (hr : ∀ x, VR e A.next (ρ x) (ρ' x)) {o : Oper} {nx : ANext} {A' : AS}
    (h : aSpecial P ρ o A = some (nx, A')) : NRel P e A w (execOp ρ' o) nx A' := by
  have hmapv : ∀ {r : Option Value} {nx : ANext} {A' : AS}, (r.map fun x => ((.value x, A) : ANext × AS)) = some (nx, A') → ∃ v, r = some v ∧ nx = .value v ∧ A' = A := by
    intro r nx A' h
    cases r with
    | none => cases h
    | some v => simp at h; exact ⟨v, rfl, h.1.symm, h.2.symm⟩
  have hmapva : ∀ {r : Option (Value × AS)} {nx : ANext} {A' : AS}, (r.map fun ((x, A) : Value × AS) => ((.value x, A) : ANext × AS)) = some (nx, A') → ∃ v, r = some (v, A') ∧ nx = .value v := by
    intro r nx A' h
    cases r with
    | none => cases h
    | some p => obtain ⟨v, B⟩ := p; simp at h; exact ⟨v, by rw [h.2], h.1.symm⟩
  have hmapu : ∀ {r : Option AS} {nx : ANext} {A' : AS}, (r.map fun A => ((.skip, A) : ANext × AS)) = some (nx, A') → r = some A' ∧ nx = .skip := by
    intro r nx A' h
    cases r with
    | none => cases h
    | some B => simp at h; exact ⟨by rw [h.2], h.1.symm⟩
  unfold aSpecial at h
  unfold execOp
  cases hop : o.op with
  | move x => simp only [hop] at h ⊢; simp at h; obtain ⟨rfl, rfl⟩ := h; exact ⟨e, w, ρ' x, rfl, hi, Step.refl e _ w, hr x⟩
  | assign x => simp only [hop] at h ⊢; simp at h; obtain ⟨rfl, rfl⟩ := h; exact ⟨e, w, ρ' x, rfl, hi, Step.refl e _ w, hr x⟩
  | pick c a b =>
    simp only [hop] at h ⊢
    split at h
    · rename_i t ht
      simp at h; obtain ⟨rfl, rfl⟩ := h
      have hc := hr c
      rw [ht] at hc
      rw [bool_of hc]
      refine ⟨e, w, if t then ρ' a else ρ' b, by simp [asBool], hi, Step.refl e _ w, ?_⟩
      cases t
      · exact hr b
      · exact hr a
    · cases h
  | alloc t =>
    simp only [hop] at h ⊢
    split at h
    · rename_i z hz
      split at h
      · rename_i hzf
        obtain ⟨v, h1, rfl⟩ := hmapva h
        simp only [Option.some.injEq] at h1
        have := alloc_sound (P := P) hi hz (fun n => .flat hzf)
        rw [h1] at this
        exact NRel.of_value this
      · cases h
    · cases h
  | box t x =>
    simp only [hop] at h ⊢
    obtain ⟨v, h1, rfl⟩ := hmapva h
    simp only [Option.some.injEq] at h1
    have := box_sound (P := P) (t := t) hi (hr x)
    rw [h1] at this
    exact NRel.of_value this
  | build t parts =>
    simp only [hop] at h ⊢
    obtain ⟨v, h1, rfl, rfl⟩ := hmapv h
    cases hz : tZero P t with
    | none => simp [aBuild, hz] at h1
    | some z => exact NRel.of_value (build_sound hi hz h1 hr)
  | buildSlice t len parts =>
    simp only [hop] at h ⊢
    obtain ⟨v, h1, rfl⟩ := hmapva h
    exact NRel.of_value (buildSlice_sound hi h1 hr)
  | insert t m k x =>
    simp only [hop] at h ⊢
    obtain ⟨h1, rfl⟩ := hmapu h
    exact NRel.of_skip (mapUpdate_sound hi h1 (hr m) (hr k) (hr x))
  | load t a =>
    simp only [hop] at h ⊢
    obtain ⟨v, h1, rfl, rfl⟩ := hmapv h
    exact NRel.of_value (load_sound hi h1 (hr a))
  | store t a x =>
    simp only [hop] at h ⊢
    obtain ⟨h1, rfl⟩ := hmapu h
    exact NRel.of_skip (store_sound hi h1 (hr a) (hr x))
  | ready g => simp only [hop] at h; cases h
  | waits g => simp only [hop] at h; cases h
  | nilCheck x =>
    simp only [hop] at h ⊢
    obtain ⟨v, h1, rfl, rfl⟩ := hmapv h
    have hv := nilCheck_val h1
    subst hv
    have hx := hr x
    unfold aNilCheck at h1
    split at h1
    · rename_i a ha
      rw [ha] at hx ⊢
      obtain ⟨a', ha'⟩ := some_ptr_of hx
      rw [ha'] at hx ⊢
      exact ⟨e, w, _, rfl, hi, Step.refl e _ w, hx⟩
    · rename_i f xs us ha
      rw [ha] at hx ⊢
      obtain ⟨g, ys, vs, ha', hg⟩ := func_of hx
      have := hg f rfl
      subst this
      rw [ha'] at hx ⊢
      exact ⟨e, w, _, rfl, hi, Step.refl e _ w, hx⟩
    · cases h1
  | binOp op t x y yt =>
    have heq : ∀ {b : Bool}, aEq P t (ρ x) (ρ y) = some b → (eqGuard .eql t x y (ρ' x) (ρ' y)).run P w = .ok () w ∧ (eqGuard .neq t x y (ρ' x) (ρ' y)).run P w = .ok () w ∧
        (binOp .eql t (ρ' x) (ρ' y)).run P w = .ok (.bool b) w ∧ (binOp .neq t (ρ' x) (ρ' y)).run P w = .ok (.bool (!b)) w := by
      intro b hb
      have hq := eq_sound (w := w) hb (hr x) (hr y)
      have hx := hr x
      have hy := hr y
      unfold aEq at hb
      split at hb
      all_goals first
        | (cases hb; done)
        | (rename_i ha hb2
           rw [ha] at hx; rw [hb2] at hy
           first
             | (rw [nil_ptr_of hx] at hq ⊢; obtain ⟨_, h2⟩ := some_ptr_of hy; rw [h2] at hq ⊢; simp [eqGuard, binOp, hq])
             | (rw [nil_ptr_of hy] at hq ⊢; obtain ⟨_, h2⟩ := some_ptr_of hx; rw [h2] at hq ⊢; simp [eqGuard, binOp, hq])
             | (obtain ⟨_, h1⟩ := some_ptr_of hx; obtain ⟨_, h2⟩ := some_ptr_of hy; rw [h1, h2] at hq ⊢; simp [eqGuard, binOp, hq])
             | (rw [nil_slice_of hx] at hq ⊢; obtain ⟨_, _, _, h2⟩ := some_slice_of hy; rw [h2] at hq ⊢; simp [eqGuard, binOp, hq])
             | (rw [nil_slice_of hy] at hq ⊢; obtain ⟨_, _, _, h2⟩ := some_slice_of hx; rw [h2] at hq ⊢; simp [eqGuard, binOp, hq])
             | (rw [nil_map_of hx] at hq ⊢; obtain ⟨_, h2⟩ := some_map_of hy; rw [h2] at hq ⊢; simp [eqGuard, binOp, hq])
             | (rw [nil_map_of hy] at hq ⊢; obtain ⟨_, h2⟩ := some_map_of hx; rw [h2] at hq ⊢; simp [eqGuard, binOp, hq])
             | (rw [VR.of_flat (v := .nilFunc) (by simp [Dp.flat, scalar]) hx] at hq ⊢; obtain ⟨_, _, _, h2, _⟩ := func_of hy; rw [h2] at hq ⊢; simp [eqGuard, binOp, hq])
             | (rw [VR.of_flat (v := .nilFunc) (by simp [Dp.flat, scalar]) hy] at hq ⊢; obtain ⟨_, _, _, h2, _⟩ := func_of hx; rw [h2] at hq ⊢; simp [eqGuard, binOp, hq]))
    cases op with
    | eql =>
      simp only [hop] at h ⊢
      obtain ⟨v, h1, rfl, rfl⟩ := hmapv h
      cases hb : aEq P t (ρ x) (ρ y) with
      | none => simp [hb] at h1
      | some b =>
        simp [hb] at h1; subst h1
        obtain ⟨g1, g2, g3, g4⟩ := heq hb
        exact ⟨e, w, .bool b, by simp [g1, g3], hi, Step.refl e _ w, .flat rfl⟩
    | neq =>
      simp only [hop] at h ⊢
      obtain ⟨v, h1, rfl, rfl⟩ := hmapv h
      cases hb : aEq P t (ρ x) (ρ y) with
      | none => simp [hb] at h1
      | some b =>
        simp [hb] at h1; subst h1
        obtain ⟨g1, g2, g3, g4⟩ := heq hb
        exact ⟨e, w, .bool (!b), by simp [g2, g4], hi, Step.refl e _ w, .flat rfl⟩
    | _ => simp only [hop] at h; cases h
  | unOp op t x => simp only [hop] at h; cases h
  | convert s d x =>
    simp only [hop] at h ⊢
    obtain ⟨v, h1, rfl⟩ := hmapva h
    exact NRel.of_value (convert_sound hi h1 (hr x))
  | sliceToArrayPointer d x => simp only [hop] at h; cases h
  | makeInterface t x => simp only [hop] at h; cases h
  | makeFunc fn first captured =>
    cases fn with
    | func f =>
      simp only [hop] at h ⊢
      obtain ⟨v, h1, rfl, rfl⟩ := hmapv h
      simp only [Option.some.injEq] at h1; subst h1
      refine ⟨e, w, .func (.func f) (first.map ρ') (captured.map ρ'), rfl, hi, Step.refl e _ w, ?_⟩
      have a1 : ∀ (xs : Array Operand) (q : Operand → Value), xs.map q = ⟨xs.toList.map q⟩ := by intro xs q; apply Array.ext'; simp
      rw [a1 first ρ, a1 first ρ', a1 captured ρ, a1 captured ρ']
      exact .func (VRs.map_ops hr _) (VRs.map_ops hr _)
    | _ => simp only [hop] at h; cases h
  | makeMap t r =>
    have hnew : OkV P e A w (do pure (.map (some (← newObj (.map #[] 0))))) (.map (some A.next)) (A.new (.map [] 0)) := by
      obtain ⟨g1, g2⟩ := new_sound hi (.map [] 0) (.map #[] 0) 0 ⟨#[], by simp only [Env.bind, if_true]; exact push_get_eq w _, rfl, fun i en h => by simp at h⟩
      refine ⟨_, _, .map (some w.heap.size), by simp only [Sem.run_bind, run_newObj, Result.andThen_ok, Sem.run_pure]; rfl, g1, g2, ?_⟩
      have := VR.map (e := e.bind A.next w.heap.size 0 0) (n := A.next + 1) (B := A.next) (Nat.lt_succ_self _)
      simpa [Env.bind, AS.new] using this
    cases r with
    | none =>
      simp only [hop] at h ⊢
      obtain ⟨v, h1, rfl⟩ := hmapva h
      simp only [Option.some.injEq, Prod.mk.injEq] at h1
      obtain ⟨rfl, rfl⟩ := h1
      exact NRel.of_value hnew
    | some r =>
      simp only [hop] at h ⊢
      split at h
      · rename_i kt vt k n hu hrr
        obtain ⟨v, h1, rfl⟩ := hmapva h
        simp only [Option.some.injEq, Prod.mk.injEq] at h1
        obtain ⟨rfl, rfl⟩ := h1
        refine NRel.of_value ?_
        obtain ⟨e', w', v', g1, g2⟩ := hnew
        have hrr' := hr r
        rw [hrr] at hrr'
        refine ⟨e', w', v', ?_, g2⟩
        rw [← g1]
        simp [Instr.makeMap, run_under hu, int_of hrr', asInt, asIntOf]
      · cases h
  | makeChan t s => simp only [hop] at h; cases h
  | makeSlice t l c =>
    simp only [hop] at h ⊢
    obtain ⟨v, h1, rfl⟩ := hmapva h
    exact NRel.of_value (makeSlice_sound hi h1 (hr l) (hr c))
  | slice t x lo hi' mx =>
    simp only [hop] at h ⊢
    obtain ⟨v, h1, rfl, rfl⟩ := hmapv h
    exact NRel.of_value (slice_sound hi h1 (hr x) (OVR.map hr lo) (OVR.map hr hi') (OVR.map hr mx))
  | fieldAddr s x k =>
    simp only [hop] at h ⊢
    obtain ⟨v, h1, rfl, rfl⟩ := hmapv h
    exact NRel.of_value (fieldAddr_sound hi h1 (hr x))
  | field t x k =>
    simp only [hop] at h ⊢
    obtain ⟨v, h1, rfl, rfl⟩ := hmapv h
    exact NRel.of_value (field_sound hi h1 (hr x))
  | indexAddr t x i =>
    simp only [hop] at h ⊢
    obtain ⟨v, h1, rfl, rfl⟩ := hmapv h
    exact NRel.of_value (indexAddr_sound hi h1 (hr x) (hr i))
  | index t x i =>
    simp only [hop] at h ⊢
    obtain ⟨v, h1, rfl, rfl⟩ := hmapv h
    exact NRel.of_value (index_sound hi h1 (hr x) (hr i))
  | lookup t x k ok =>
    simp only [hop] at h ⊢
    obtain ⟨v, h1, rfl, rfl⟩ := hmapv h
    exact NRel.of_value (lookup_sound hi h1 (hr x) (hr k))
  | mapUpdate t m k x =>
    simp only [hop] at h ⊢
    obtain ⟨h1, rfl⟩ := hmapu h
    exact NRel.of_skip (mapUpdate_sound hi h1 (hr m) (hr k) (hr x))
  | mapEntry t m k =>
    simp only [hop] at h ⊢
    obtain ⟨v, h1, rfl⟩ := hmapva h
    exact NRel.of_value (mapEntry_sound hi h1 (hr m) (hr k))
  | entryStore t m s x =>
    simp only [hop] at h ⊢
    obtain ⟨h1, rfl⟩ := hmapu h
    exact NRel.of_skip (entryStore_sound hi h1 (hr m) (hr s) (hr x))
  | range t x =>
    simp only [hop] at h ⊢
    obtain ⟨v, h1, rfl⟩ := hmapva h
    exact NRel.of_value (range_sound hi h1 (hr x))
  | next it s =>
    simp only [hop] at h ⊢
    obtain ⟨v, h1, rfl⟩ := hmapva h
    exact NRel.of_value (next_sound hi h1 (hr it))
  | entry it =>
    simp only [hop] at h ⊢
    obtain ⟨v, h1, rfl, rfl⟩ := hmapv h
    exact NRel.of_value (entry_sound hi h1 (hr it))
  | typeAssert x xt a ok => simp only [hop] at h; cases h
  | extract t i =>
    simp only [hop] at h ⊢
    obtain ⟨v, h1, rfl, rfl⟩ := hmapv h
    exact NRel.of_value (extract_sound hi h1 (hr t))
  | call c =>
    simp only [hop] at h ⊢
    have hargs : (c.args.map ρ') = ⟨c.args.toList.map ρ'⟩ := by apply Array.ext'; simp
    cases hc : c.callee with
    | value f =>
      simp only [hc] at h
      split at h
      · rename_i L xs us hf
        split at h
        · rename_i fn t nt params assign body st pend dl hL
          split at h
          · rename_i hsz
            simp only [Nat.beq_eq] at hsz
            simp only [Option.some.injEq, Prod.mk.injEq] at h
            obtain ⟨rfl, rfl⟩ := h
            obtain ⟨hdl, tmps, ht, hb⟩ := hi.obj L _ hL
            have hrf := hr f
            rw [hf] at hrf
            have hsh : ρ' f = .func (.yield (e.loc L)) #[] #[] := by
              generalize ρ' f = ff at hrf
              cases hrf with
              | flat hfl => simp [Dp.flat, scalar] at hfl
              | yield _ => rfl
            refine ⟨rfl, fn, t, nt, params, assign, body, st, pend, dl, hL, c.args.map ρ', tmps, ht, by rw [hargs]; exact VRs.map_ops hr _, hsz, ?_⟩
            have hne : ¬ (c.args.size ≠ params.size) := by
              simp at hsz; omega
            simp only [Sem.run_bind, resolve, hc, Deferred.ofValue, hsh, Sem.run_pure, Result.andThen_ok, invoke, Instr.yield, Instr.getLoop, getObj_run hb (by simp), Array.empty_append, Array.size_map]
            rw [if_neg hne]
            rfl
          · cases h
        · cases h
      rename_i hny
      split at h
      · rename_i g args hres
        split at h
        · rename_i hb
          simp only [Option.some.injEq, Prod.mk.injEq] at h
          obtain ⟨rfl, rfl⟩ := h
          obtain ⟨first, captured, hf', hrel⟩ := resolve_rel hres (hr f) (VRs.map_ops hr _)
          refine ⟨rfl, first ++ (c.args.map ρ') ++ captured, ?_, by simpa using hrel, hb⟩
          simp only [Sem.run_bind, resolve, hc, Deferred.ofValue, hf', Sem.run_pure, Result.andThen_ok, invoke]
          exact callFunc_run hb _ w
        · cases h
      · cases h
    | invoke r m => simp only [hc] at h; cases h
    | builtin b =>
      simp only [hc] at h
      obtain ⟨v, h1, rfl⟩ := hmapva h
      unfold aBuiltin at h1
      split at h1
      · rename_i s x hl
        obtain ⟨x1, x2, hx, hx1, hx2⟩ : ∃ x1 x2, c.args.toList = [x1, x2] ∧ ρ x1 = s ∧ ρ x2 = x := by
          cases hq : c.args.toList with
          | nil => simp [hq] at hl
          | cons y l => cases l with
            | nil => simp [hq] at hl
            | cons z l => cases l with
              | nil => simp [hq] at hl; exact ⟨y, z, rfl, hl.1, hl.2⟩
              | cons _ _ => simp [hq] at hl
        have := append_sound (P := P) (ty := o.type) hi h1 (by rw [← hx1]; exact hr x1) (by rw [← hx2]; exact hr x2)
        have h2 := NRel.of_value this
        simpa [resolve, hc, invoke, builtin, hargs, hx, NRel] using h2
      · rename_i s x hl
        obtain ⟨x1, x2, hx, hx1, hx2⟩ : ∃ x1 x2, c.args.toList = [x1, x2] ∧ ρ x1 = s ∧ ρ x2 = x := by
          cases hq : c.args.toList with
          | nil => simp [hq] at hl
          | cons y l => cases l with
            | nil => simp [hq] at hl
            | cons z l => cases l with
              | nil => simp [hq] at hl; exact ⟨y, z, rfl, hl.1, hl.2⟩
              | cons _ _ => simp [hq] at hl
        have := copy_sound (P := P) (ty := o.type) hi h1 (by rw [← hx1]; exact hr x1) (by rw [← hx2]; exact hr x2)
        have h2 := NRel.of_value this
        simpa [resolve, hc, invoke, builtin, hargs, hx, NRel] using h2
      · rename_i x hl
        obtain ⟨x1, hx, hx1⟩ : ∃ x1, c.args.toList = [x1] ∧ ρ x1 = x := by
          cases hq : c.args.toList with
          | nil => simp [hq] at hl
          | cons y l => cases l with
            | nil => simp [hq] at hl; exact ⟨y, rfl, hl⟩
            | cons _ _ => simp [hq] at hl
        cases hlen : aLen P A c.argTypes x with
        | none => simp [hlen] at h1
        | some vv =>
          simp [hlen] at h1; obtain ⟨rfl, rfl⟩ := h1
          have := len_sound (P := P) (ty := o.type) hi hlen (by rw [← hx1]; exact hr x1)
          have h2 := NRel.of_value this
          simpa [resolve, hc, invoke, builtin, hargs, hx, NRel] using h2
      · rename_i x hl
        obtain ⟨x1, hx, hx1⟩ : ∃ x1, c.args.toList = [x1] ∧ ρ x1 = x := by
          cases hq : c.args.toList with
          | nil => simp [hq] at hl
          | cons y l => cases l with
            | nil => simp [hq] at hl; exact ⟨y, rfl, hl⟩
            | cons _ _ => simp [hq] at hl
        cases hlen : aCap P A c.argTypes x with
        | none => simp [hlen] at h1
        | some vv =>
          simp [hlen] at h1; obtain ⟨rfl, rfl⟩ := h1
          have := cap_sound (P := P) (ty := o.type) hi hlen (by rw [← hx1]; exact hr x1)
          have h2 := NRel.of_value this
          simpa [resolve, hc, invoke, builtin, hargs, hx, NRel] using h2
      · rename_i s x hl
        obtain ⟨x1, x2, hx, hx1, hx2⟩ : ∃ x1 x2, c.args.toList = [x1, x2] ∧ ρ x1 = s ∧ ρ x2 = x := by
          cases hq : c.args.toList with
          | nil => simp [hq] at hl
          | cons y l => cases l with
            | nil => simp [hq] at hl
            | cons z l => cases l with
              | nil => simp [hq] at hl; exact ⟨y, z, rfl, hl.1, hl.2⟩
              | cons _ _ => simp [hq] at hl
        cases hdel : aDelete P A c.argTypes s x with
        | none => simp [hdel] at h1
        | some A2 =>
          simp [hdel] at h1; obtain ⟨rfl, rfl⟩ := h1
          obtain ⟨w', g1, g2, g3⟩ := delete_sound (P := P) (ty := o.type) hi hdel (by rw [← hx1]; exact hr x1) (by rw [← hx2]; exact hr x2)
          refine ⟨e, w', .tuple #[], ?_, g2, g3, .flat rfl⟩
          simp [resolve, hc, invoke, builtin, hargs, hx, g1]
      · cases h1
  | go c => simp only [hop] at h; cases h
  | defer c =>
    simp only [hop] at h ⊢
    cases hc : c.callee with
    | value f =>
      simp only [hc] at h
      split at h
      · rename_i g first captured hf
        simp only [Option.some.injEq, Prod.mk.injEq] at h
        obtain ⟨rfl, rfl⟩ := h
        have hrf := hr f
        rw [hf] at hrf
        have hargs := VRs.map_ops hr c.args.toList
        have hsh : ∃ ys vs : Array Value, ρ' f = .func (.func g) ys vs ∧ VRs e A.next first.toList ys.toList ∧ VRs e A.next captured.toList vs.toList := by
          generalize ρ' f = ff at hrf
          cases hrf with
          | flat hfl =>
            simp only [Dp.flat, scalar, Bool.and_eq_true, beq_iff_eq, Array.size_eq_zero_iff] at hfl
            obtain ⟨h1, h2⟩ := hfl
            subst h1 h2
            exact ⟨_, _, rfl, .nil, .nil⟩
          | func h1 h2 => exact ⟨_, _, rfl, h1, h2⟩
        obtain ⟨ys, vs, hff, hy, hv⟩ := hsh
        refine ⟨rfl, { target := .fn (.func g) vs, args := ys ++ (c.args.map ρ') }, ?_, g, captured, vs, rfl, rfl, hv, by simpa using hy.append hargs⟩
        simp [resolve, hc, Deferred.ofValue, hff]
      · cases h
    | invoke r m => simp only [hc] at h; cases h
    | builtin b => simp only [hc] at h; cases h
  | panic x => simp only [hop] at h; cases h
  | send c x => simp only [hop] at h; cases h
  | recv t c ok => simp only [hop] at h; cases h
  | select cs b => simp only [hop] at h; cases h
end Go.Dp
namespace Go.Dp
open Go
variable {P : Program} {e : Env} {A : AS} {w : World}
def CallsTo (P : Program) (f : FuncId) (args : Array Value) (w : World) (R : Value → World → Prop) : Prop :=
  ∀ cs, ∃ fr w' v, Steps P (lone (Frame.enter P f args .normal) cs w) (lone fr cs w') ∧ fr.fn = f ∧ fr.leaving P w' (.returned v) ∧ R v w'
theorem CallsTo.calls {f : FuncId} {args : Array Value} {R : Value → World → Prop} {R' : Ending → World → Prop} (h : CallsTo P f args w R)
    (hr : ∀ v w', R v w' → R' (.returned v) w') : Calls P f args w R' := by
  intro cs
  obtain ⟨fr, w', v, hs, hf, hl, hR⟩ := h cs
  exact ⟨.returned v, w', fr, hr _ _ hR, hs, hf, hl⟩
theorem CallsTo.of_calls {f : FuncId} {args : Array Value} {R : Value → World → Prop} (h : Calls P f args w fun e w' => ∃ v, e = .returned v ∧ R v w') : CallsTo P f args w R := by
  intro cs
  obtain ⟨e, w', fr, ⟨v, rfl, hR⟩, hs, hf, hl⟩ := h cs
  exact ⟨fr, w', v, hs, hf, hl, hR⟩
def Glob (e : Env) (A : AS) : Prop := nGlob ≤ A.next ∧ ∀ g, g < nGlob → e.loc g = g ∧ e.off g = 0
theorem Glob.step {e' : Env} {A' : AS} {w' : World} (h : Glob e A) (hs : Step e A w e' A' w') : Glob e' A' :=
  ⟨Nat.le_trans h.1 hs.next, fun g hg => by
    obtain ⟨a, b, _⟩ := hs.env g (.inl (Nat.lt_of_lt_of_le hg h.1))
    rw [a, b]; exact h.2 g hg⟩
def DefRel (e : Env) (n : Nat) (d d' : Deferred) : Prop :=
  DRel e n d d' ∨ ∃ L, L < n ∧ d.target = .collected L ∧ d'.target = .collected (e.loc L)
inductive DefsRel (e : Env) (n : Nat) : List Deferred → List Deferred → Prop where
  | nil : DefsRel e n [] []
  | cons {d d' : Deferred} {ds ds' : List Deferred} (h : DefRel e n d d') (t : DefsRel e n ds ds') : DefsRel e n (d :: ds) (d' :: ds')
theorem DefsRel.mono {e e' : Env} {n n' : Nat} (ha : e.agrees e' n) (hn : n ≤ n') : ∀ {ds ds' : List Deferred}, DefsRel e n ds ds' → DefsRel e' n' ds ds'
  | _, _, .nil => .nil
  | _, _, .cons h t => .cons (by
      rcases h with ⟨g, c, c', h1, h2, h3, h4⟩ | ⟨L, h1, h2, h3⟩
      · exact .inl ⟨g, c, c', h1, h2, h3.mono ha hn, h4.mono ha hn⟩
      · exact .inr ⟨L, Nat.lt_of_lt_of_le h1 hn, h2, by rw [(ha L h1).1]; exact h3⟩) (t.mono ha hn)
structure FrRel (e : Env) (n : Nat) (fr : Fr) (a : Act) : Prop where
  tmps : TmpsRel e n fr.t fr.nt a.tmps
  defers : DefsRel e n fr.defers a.defers
theorem FrRel.mono {e e' : Env} {n n' : Nat} {fr : Fr} {a : Act} (h : FrRel e n fr a) (ha : e.agrees e' n) (hn : n ≤ n') : FrRel e' n' fr a :=
  ⟨h.tmps.mono ha hn, h.defers.mono ha hn⟩
theorem FrRel.step {e e' : Env} {A A' : AS} {w w' : World} {fr : Fr} {a : Act} (h : FrRel e A.next fr a) (hs : Step e A w e' A' w') : FrRel e' A'.next fr a :=
  h.mono hs.agrees hs.next
structure St (e : Env) (A : AS) (w : World) (fr : Fr) (a : Act) : Prop where
  inv : Inv e A w
  glob : Glob e A
  fr : FrRel e A.next fr a
def evM (a : Act) (x : Operand) : Value := if opndOk x then a.eval x else .nilIface
def evG (fr : Fr) (x : Operand) : Value := if opndOk x then ev fr x else .nilIface
theorem ev_rel {n : Nat} {fr : Fr} {a : Act} (hg : nGlob ≤ n ∧ ∀ g, g < nGlob → e.loc g = g ∧ e.off g = 0) (h : TmpsRel e n fr.t fr.nt a.tmps) (x : Operand) (hx : opndOk x = true) : VR e n (ev fr x) (a.eval x) := by
  cases x with
  | tmp k =>
    have := h.2.1 k
    simp only [ev, Act.eval]
    cases hk : fr.t.get k with
    | none => simpa [hk] using this
    | some v => simpa [hk] using this
  | const v => exact .flat hx
  | global g =>
    simp only [opndOk, Nat.blt_eq] at hx
    have hp := VR.ptr (e := e) (n := n) (B := g) (o := 0) (by omega)
    obtain ⟨h1, h2⟩ := hg.2 g hx
    rw [h1, h2] at hp
    exact hp
  | func f => exact .flat rfl
theorem evG_rel {n : Nat} {fr : Fr} {a : Act} (hg : nGlob ≤ n ∧ ∀ g, g < nGlob → e.loc g = g ∧ e.off g = 0) (h : TmpsRel e n fr.t fr.nt a.tmps) (x : Operand) : VR e n (evG fr x) (evM a x) := by
  unfold evG evM
  split
  · rename_i hx; exact ev_rel hg h x hx
  · exact .flat rfl
theorem put_rel {n : Nat} {fr fr' : Fr} {a : Act} {dst : Option Tmp} {v v' : Value} (h : FrRel e n fr a) (hp : fr.put dst v = some fr') (hv : VR e n v v') : FrRel e n fr' (a.put dst v') := by
  cases dst with
  | none => simp only [Fr.put, Option.some.injEq] at hp; subst hp; exact h
  | some d =>
    simp only [Fr.put] at hp
    split at hp
    · rename_i hd
      simp only [Nat.blt_eq] at hd
      simp only [Option.some.injEq] at hp; subst hp
      obtain ⟨h1, h2, h3⟩ := h.tmps
      refine ⟨⟨by simpa [Act.put] using h1, fun k => ?_, fun k hk => ?_⟩, h.defers⟩
      · simp only [Act.put, Trie.get_set]
        by_cases hdk : d = k
        · subst hdk
          have hlt : d < a.tmps.size := h1 ▸ hd
          simpa [Array.getD_eq_getD_getElem?, hlt] using hv
        · have := h2 k
          simp only [hdk, if_false]
          simpa [Array.getD_eq_getD_getElem?, Array.getElem?_setIfInBounds, hdk] using this
      · rw [Trie.get_set]
        have hk' : fr.nt ≤ k := hk
        have : ¬ d = k := fun hdk => by
          have hd' : k < fr.nt := hdk ▸ hd
          exact absurd hd' (Nat.not_lt.2 hk')
        simp only [this, if_false]
        exact h3 k hk
    · cases hp
theorem put_fields {fr fr' : Fr} {dst : Option Tmp} {v : Value} (hp : fr.put dst v = some fr') : fr'.nt = fr.nt ∧ fr'.defers = fr.defers ∧ fr'.fn = fr.fn ∧ fr'.inRound = fr.inRound := by
  cases dst with
  | none => simp only [Fr.put, Option.some.injEq] at hp; subst hp; exact ⟨rfl, rfl, rfl, rfl⟩
  | some d =>
    simp only [Fr.put] at hp
    split at hp
    · simp only [Option.some.injEq] at hp; subst hp; exact ⟨rfl, rfl, rfl, rfl⟩
    · cases hp
theorem bool_back {n : Nat} {v : Value} {b : Bool} (h : VR e n v (.bool b)) : v = .bool b := by
  cases h with
  | flat _ => rfl
theorem yielded_same {n : Nat} {fr : Fr} {a : Act} (h : TmpsRel e n fr.t fr.nt a.tmps) (ops : Array Oper) : yielded ops a.tmps = yieldedA ops fr := by
  funext j
  simp only [yielded, yieldedA]
  cases ops[j]? with
  | none => rfl
  | some o =>
    simp only [Option.bind_some]
    cases hd : o.dst with
    | none => rfl
    | some d =>
      simp only [Option.bind_some]
      obtain ⟨h1, h2, h3⟩ := h
      have hv := h2 d
      cases hk : fr.t.get d with
      | none =>
        rw [hk] at hv
        simp only [Option.getD_none] at hv
        cases hq : a.tmps[d]? with
        | none => rfl
        | some v =>
          have : a.tmps.getD d undef = v := by simp [Array.getD_eq_getD_getElem?, hq]
          rw [this] at hv
          cases v with
          | bool b => have := bool_back hv; simp [undef] at this
          | _ => rfl
      | some u =>
        rw [hk] at hv
        simp only [Option.getD_some] at hv
        have hlt : d < a.tmps.size := by
          rcases Nat.lt_or_ge d a.tmps.size with hh | hh
          · exact hh
          · rw [h3 d (by omega)] at hk; cases hk
        have hq : a.tmps[d]? = some (a.tmps[d]) := by simp [hlt]
        have : a.tmps.getD d undef = a.tmps[d] := by simp [Array.getD_eq_getD_getElem?, hlt]
        rw [this] at hv
        rw [hq]
        generalize a.tmps[d] = v at hv
        cases u with
        | bool b => rw [bool_of hv]
        | _ =>
          cases v with
          | bool b => have := bool_back hv; cases this
          | _ => rfl
structure CallsOk (P : Program) (cc : Calls2) : Prop where
  call : ∀ {f : FuncId} {args : List Value} {A A' : AS} {v : Value}, cc.call f args A = some (v, A') → hasBody P f = true → ∀ {e : Env} {w : World} {args' : Array Value}, Inv e A w → Glob e A → VRs e A.next args args'.toList →
    CallsTo P f args' w fun v' w' => ∃ e', Inv e' A' w' ∧ Step e A w e' A' w' ∧ VR e' A'.next v v'
  round : ∀ {L : Nat} {args : List Value} {A A' : AS} {v : Value}, cc.round L args A = some (v, A') → ∀ {e : Env} {w : World} {args' : Array Value} {fn : FuncId} {t : Trie Value} {nt : Nat} {params : Array Tmp} {assign body : Code} {st : LoopState} {pend : Option Code} {dl : Nat} {tmps : Array Value},
    Inv e A w → Glob e A → A.get L = some (.loop fn t nt params assign body st pend dl) → TmpsRel e A.next t nt tmps → VRs e A.next args args'.toList → params.size = args.length →
    ∀ c cs, ∃ w' v', Steps P (lone (Frame.round (e.loc L) fn ((params.zip args').foldl (fun tmps (t, a) => tmps.setIfInBounds t a) tmps) assign body .normal) (c :: cs) w) (lone (c.finish v') cs w') ∧
      ∃ e', Inv e' A' w' ∧ Step e A w e' A' w' ∧ VR e' A'.next v v'
theorem aSpecial_congr {ρ ρ' : Operand → Value} (o : Oper) (h : ∀ x ∈ o.op.operands, ρ x = ρ' x) : aSpecial P ρ o A = aSpecial P ρ' o A := by
  have parts : ∀ (ps : Array (Nat × Operand)), (∀ x ∈ (ps.toList.map (·.2)).toArray, ρ x = ρ' x) → (ps.toList.map fun (i, x) => (i, ρ x)) = (ps.toList.map fun (i, x) => (i, ρ' x)) := by
    intro ps hp
    apply List.map_congr_left
    intro p hm
    have := hp p.2 (by simp; exact ⟨p.1, by simpa using hm⟩)
    simp [this]
  have args : ∀ (xs : Array Operand), (∀ x ∈ xs, ρ x = ρ' x) → xs.toList.map ρ = xs.toList.map ρ' := fun xs hx => List.map_congr_left fun x hm => hx x (by simpa using hm)
  have argsA : ∀ (xs : Array Operand), (∀ x ∈ xs, ρ x = ρ' x) → xs.map ρ = xs.map ρ' := fun xs hx => by
    apply Array.ext'; simpa using args xs hx
  have opt : ∀ (x : Option Operand), (∀ y, x = some y → ρ y = ρ' y) → x.map ρ = x.map ρ' := by
    intro x hx
    cases x with
    | none => rfl
    | some y => simp [hx y rfl]
  unfold aSpecial
  cases hop : o.op with
  | build t ps => simp only [hop, Op.operands] at h ⊢; rw [parts ps h]
  | buildSlice t l ps => simp only [hop, Op.operands] at h ⊢; rw [parts ps h]
  | makeFunc fn first captured =>
    simp only [hop, Op.operands] at h ⊢
    have h1 := argsA first (fun x hx => h x (by simp [hx]))
    have h2 := argsA captured (fun x hx => h x (by simp [hx]))
    cases fn <;> simp only [h1, h2]
  | makeMap t r =>
    cases r with
    | none => rfl
    | some x => simp only [hop, Op.operands] at h ⊢; rw [h x (by simp)]
  | slice t x lo hi mx =>
    simp only [hop, Op.operands] at h ⊢
    rw [h x (by simp), opt lo (fun y hy => h y (by simp [hy])), opt hi (fun y hy => h y (by simp [hy])), opt mx (fun y hy => h y (by simp [hy]))]
  | call c =>
    simp only [hop, Op.operands, Call.operands] at h ⊢
    cases hc : c.callee with
    | value f =>
      simp only [hc] at h ⊢
      have h1 := args c.args (fun x hx => h x (by simp [hx]))
      rw [h1, h f (by simp)]
    | invoke r m => rfl
    | builtin b =>
      simp only [hc] at h ⊢
      have h1 := args c.args (fun x hx => h x (by simpa using hx))
      rw [h1]
  | defer c =>
    simp only [hop, Op.operands, Call.operands] at h ⊢
    cases hc : c.callee with
    | value f =>
      simp only [hc] at h ⊢
      have h1 := argsA c.args (fun x hx => h x (by simp [hx]))
      rw [h1, h f (by simp)]
    | invoke r m => rfl
    | builtin b => rfl
  | binOp op t x y yt =>
    simp only [hop, Op.operands] at h ⊢
    have h1 := h x (by simp)
    have h2 := h y (by simp)
    cases op <;> first | rfl | simp only [h1, h2]
  | next it s => simp only [hop, Op.operands] at h ⊢; rw [h it (by simp)]
  | select cs b => rfl
  | go c => rfl
  | _ =>
    simp only [hop, Op.operands] at h ⊢ <;> first
      | rfl
      | (rw [h _ (by simp)]; done)
      | (rw [h _ (by simp), h _ (by simp)]; done)
      | simp [h]
theorem exec_sound {fr : Fr} {a : Act} {o : Oper} {nx : ANext} {A' : AS} {n : Nat} (hi : Inv e A w) (hn : n = A.next) (hr : ∀ x, VR e n (evG fr x) (evM a x)) (hok : opOk o = true)
    (h : aExec P (ev fr) o A = some (nx, A')) : NRel P e A w (execOp a.eval o) nx A' := by
  subst hn
  have hops : ∀ x ∈ o.op.operands, opndOk x = true := by
    intro x hx
    simp only [opOk, Array.all_eq_true_iff_forall_mem] at hok
    exact hok x hx
  have hsel : ∀ cs b, o.op ≠ .select cs b := by
    intro cs b hs
    simp [aExec, plainOp, aSpecial, hs] at h
  have e1 : execOp a.eval o = execOp (evM a) o := execOp_congr o hsel (fun x hx => by simp [evM, hops x hx])
  have e2 : ∀ x ∈ o.op.operands, ev fr x = evG fr x := fun x hx => by simp [evG, hops x hx]
  rw [e1]
  unfold aExec at h
  split at h
  · rename_i hp
    unfold aFlat at h
    split at h
    · rename_i v hpure
      split at h
      · rename_i hvf
        simp only [Option.map_some, Option.some.injEq, Prod.mk.injEq] at h
        obtain ⟨rfl, rfl⟩ := h
        have hflat : ∀ x ∈ o.op.operands, flat (ev fr x) = true := by
          unfold plainOp at hp
          intro x hx
          split at hp
          all_goals first
            | (rw [Array.all_eq_true_iff_forall_mem] at hp; exact hp x hx)
            | (cases hp; done)
            | skip
          rename_i c hc
          split at hp
          · rename_i b hb
            simp only [Bool.and_eq_true] at hp
            rw [hc] at hx
            simp only [Op.operands, Call.operands, hb, Array.empty_append] at hx
            have hp2 := hp.2
            rw [Array.all_eq_true_iff_forall_mem] at hp2
            exact hp2 x hx
          · cases hp
        have hsame : ∀ x ∈ o.op.operands, evM a x = ev fr x := by
          intro x hx
          have := hr x
          rw [← e2 x hx] at this
          exact VR.of_flat (hflat x hx) this
        rw [execOp_congr o hsel hsame]
        exact ⟨e, w, v, pureRun_sound P _ _ hpure w, hi, Step.refl e _ w, .flat hvf⟩
      · cases h
    · cases h
  · have hcong : aSpecial P (ev fr) o A = aSpecial P (evG fr) o A := aSpecial_congr o e2
    rw [hcong] at h
    exact special_sound hi hr h
end Go.Dp
namespace Go.Dp
open Go
variable {P : Program} {e : Env} {A : AS} {w : World} {cc : Calls2}
theorem St.of_step {e' : Env} {A' : AS} {w' : World} {fr : Fr} {a : Act} (h : St e A w fr a) (hi : Inv e' A' w') (hs : Step e A w e' A' w') : St e' A' w' fr a :=
  ⟨hi, h.glob.step hs, h.fr.step hs⟩
theorem St.put {fr fr' : Fr} {a : Act} {dst : Option Tmp} {v v' : Value} (h : St e A w fr a) (hp : fr.put dst v = some fr') (hv : VR e A.next v v') : St e A w fr' (a.put dst v') :=
  ⟨h.inv, h.glob, put_rel h.fr hp hv⟩
def Fits (fr : Fr) (b : Frame) : Prop := b.fn = fr.fn ∧ b.kind = b.kind ∧ (fr.inRound = false → b.roundOf = none)
theorem apply_value {b : Frame} {a : Act} {ops : Array Oper} {i : Nat} {rest : List Nat} {k : List Item} {cs : List Frame} {o : Oper} {v : Value} {w' : World}
    (ho : ops[i]? = some o) (hw : Region.wanted o (yielded ops a.tmps) = true) (hd : ∀ c, o.op ≠ .defer c) (h : (execOp a.eval o).run P w = .ok (.value v) w') :
    step P (lone (b.atR a (.inRegion ops (i :: rest) :: k)) cs w) = .next (lone (b.atR (a.put o.dst v) (.inRegion ops rest :: k)) cs w') := by
  have hfin : (b.atR a (.inRegion ops (i :: rest) :: k)).finish v = b.atR (a.put o.dst v) (.inRegion ops rest :: k) := by rw [Frame.finish_atR, ho]; rfl
  refine step_lone_go ?_
  rw [stepGR_op ho hw, Oper.semAt_eq _ _ _ hd, ← hfin]
  simp [stepG.apply, h]
theorem apply_skip {b : Frame} {a : Act} {ops : Array Oper} {i : Nat} {rest : List Nat} {k : List Item} {cs : List Frame} {o : Oper} {w' : World}
    (ho : ops[i]? = some o) (hw : Region.wanted o (yielded ops a.tmps) = true) (hd : ∀ c, o.op ≠ .defer c) (h : (execOp a.eval o).run P w = .ok .skip w') :
    step P (lone (b.atR a (.inRegion ops (i :: rest) :: k)) cs w) = .next (lone (b.atR (a.put o.dst undef) (.inRegion ops rest :: k)) cs w') := by
  have hfin : (b.atR a (.inRegion ops (i :: rest) :: k)).finish undef = b.atR (a.put o.dst undef) (.inRegion ops rest :: k) := by rw [Frame.finish_atR, ho]; rfl
  refine step_lone_go ?_
  rw [stepGR_op ho hw, Oper.semAt_eq _ _ _ hd, ← hfin]
  simp [stepG.apply, h]
theorem apply_enter {b : Frame} {a : Act} {ops : Array Oper} {i : Nat} {rest : List Nat} {k : List Item} {cs : List Frame} {o : Oper} {f : FuncId} {args : Array Value} {w' : World}
    (ho : ops[i]? = some o) (hw : Region.wanted o (yielded ops a.tmps) = true) (hd : ∀ c, o.op ≠ .defer c) (h : (execOp a.eval o).run P w = .ok (.enter f args) w') :
    step P (lone (b.atR a (.inRegion ops (i :: rest) :: k)) cs w) = .next (lone (Frame.enter P f args .normal) (b.atR a (.inRegion ops (i :: rest) :: k) :: cs) w') := by
  refine step_lone_go ?_
  rw [stepGR_op ho hw, Oper.semAt_eq _ _ _ hd]
  simp [stepG.apply, h, Frame.atR]
theorem apply_round {b : Frame} {a : Act} {ops : Array Oper} {i : Nat} {rest : List Nat} {k : List Item} {cs : List Frame} {o : Oper} {l : Nat} {f : FuncId} {tmps : Array Value} {assign body : Code} {w' : World}
    (ho : ops[i]? = some o) (hw : Region.wanted o (yielded ops a.tmps) = true) (hd : ∀ c, o.op ≠ .defer c) (h : (execOp a.eval o).run P w = .ok (.round l f tmps assign body) w') :
    step P (lone (b.atR a (.inRegion ops (i :: rest) :: k)) cs w) = .next (lone (Frame.round l f tmps assign body .normal) (b.atR a (.inRegion ops (i :: rest) :: k) :: cs) w') := by
  refine step_lone_go ?_
  rw [stepGR_op ho hw, Oper.semAt_eq _ _ _ hd]
  simp [stepG.apply, h]
theorem apply_defer {b : Frame} {a : Act} {ops : Array Oper} {i : Nat} {rest : List Nat} {k : List Item} {cs : List Frame} {o : Oper} {d : Deferred} {w' : World}
    (ho : ops[i]? = some o) (hw : Region.wanted o (yielded ops a.tmps) = true) (hb : b.roundOf = none) (h : (execOp a.eval o).run P w = .ok (.defer d) w') :
    step P (lone (b.atR a (.inRegion ops (i :: rest) :: k)) cs w) = .next (lone (b.atR ({ a with defers := d :: a.defers }.put o.dst undef) (.inRegion ops rest :: k)) cs w') := by
  have hfin : (b.atR { a with defers := d :: a.defers } (.inRegion ops (i :: rest) :: k)).finish undef = b.atR ({ a with defers := d :: a.defers }.put o.dst undef) (.inRegion ops rest :: k) := by rw [Frame.finish_atR, ho]; rfl
  refine step_lone_go ?_
  rw [stepGR_op ho hw, hb, Oper.semAt_none, ← hfin]
  simp only [stepG.apply, Sem.runT_eq, h, GStep.bare_after]
  rfl
theorem op_notdefer {fr : Fr} {o : Oper} {nx : ANext} {A' : AS} (h : aExec P (ev fr) o A = some (nx, A')) (hn : ∀ d, nx ≠ .defer d) : ∀ c, o.op ≠ .defer c := by
  intro c hc
  have hp : plainOp (ev fr) o = false := by simp [plainOp, hc]
  simp only [aExec, hp, Bool.false_eq_true, if_false, aSpecial, hc] at h
  split at h
  · split at h
    · simp only [Option.some.injEq, Prod.mk.injEq] at h
      exact hn _ h.1.symm
    · cases h
  · cases h
theorem op_steps (hc : CallsOk P cc) {fr fr' : Fr} {a : Act} {ops : Array Oper} {i : Nat} {rest : List Nat} {o : Oper} {A' : AS} {b : Frame}
    (hst : St e A w fr a) (hf : Fits fr b) (ho : ops[i]? = some o) (h : evalOp P cc ops o fr A = some (fr', A')) (k : List Item) (cs : List Frame) :
    ∃ e' w' a', Steps P (lone (b.atR a (.inRegion ops (i :: rest) :: k)) cs w) (lone (b.atR a' (.inRegion ops rest :: k)) cs w') ∧ St e' A' w' fr' a' ∧ Step e A w e' A' w' ∧
      fr'.fn = fr.fn ∧ fr'.inRound = fr.inRound ∧ fr'.nt = fr.nt := by
  have hy := yielded_same hst.fr.tmps ops
  have hfin : ∀ v, (b.atR a (.inRegion ops (i :: rest) :: k)).finish v = b.atR (a.put o.dst v) (.inRegion ops rest :: k) := fun v => by rw [Frame.finish_atR, ho]; rfl
  unfold evalOp at h
  split at h
  · rename_i hwant
    have hw : Region.wanted o (yielded ops a.tmps) = true := by rw [hy]; exact hwant
    split at h
    · rename_i hok
      have hex := fun {nx : ANext} {A' : AS} (hh : aExec P (ev fr) o A = some (nx, A')) => exec_sound (P := P) (a := a) hst.inv rfl (evG_rel hst.glob hst.fr.tmps) hok hh
      split at h
      · rename_i v A1 hx
        split at h
        · rename_i fr1 hp
          simp only [Option.some.injEq, Prod.mk.injEq] at h
          obtain ⟨rfl, rfl⟩ := h
          obtain ⟨e', w', v', hrun, hi', hs, hv⟩ := hex hx
          obtain ⟨p1, p2, p3, p4⟩ := put_fields hp
          exact ⟨e', w', _, .one (apply_value ho hw (op_notdefer hx (by simp)) hrun), (hst.of_step hi' hs).put hp hv, hs, p3, p4, p1⟩
        · cases h
      · rename_i A1 hx
        split at h
        · rename_i fr1 hp
          simp only [Option.some.injEq, Prod.mk.injEq] at h
          obtain ⟨rfl, rfl⟩ := h
          obtain ⟨e', w', hrun, hi', hs⟩ := hex hx
          obtain ⟨p1, p2, p3, p4⟩ := put_fields hp
          exact ⟨e', w', _, .one (apply_skip ho hw (op_notdefer hx (by simp)) hrun), (hst.of_step hi' hs).put hp (.flat rfl), hs, p3, p4, p1⟩
        · cases h
      · rename_i f args A1 hx
        split at h
        · rename_i v A2 hcall
          split at h
          · rename_i fr1 hp
            simp only [Option.some.injEq, Prod.mk.injEq] at h
            obtain ⟨rfl, rfl⟩ := h
            obtain ⟨rfl, args', hrun, hargs, hb⟩ := hex hx
            obtain ⟨p1, p2, p3, p4⟩ := put_fields hp
            obtain ⟨fr0, w', v', hs0, hfn, hleave, e', hi', hs, hv⟩ := hc.call hcall hb hst.inv hst.glob hargs (b.atR a (.inRegion ops (i :: rest) :: k) :: cs)
            refine ⟨e', w', a.put o.dst v', ?_, (hst.of_step hi' hs).put hp hv, hs, p3, p4, p1⟩
            refine .head (apply_enter ho hw (op_notdefer hx (by simp)) hrun) (hs0.trans (.one ?_))
            rw [← hfin]
            exact step_leave_returned hleave
          · cases h
        · cases h
      · rename_i l args A1 hx
        split at h
        · rename_i v A2 hcall
          split at h
          · rename_i fr1 hp
            simp only [Option.some.injEq, Prod.mk.injEq] at h
            obtain ⟨rfl, rfl⟩ := h
            obtain ⟨rfl, fn, t, nt, params, assign, body, st, pend, dl, hL, args', tmps, ht, hargs, hsz, hrun⟩ := hex hx
            obtain ⟨p1, p2, p3, p4⟩ := put_fields hp
            obtain ⟨w', v', hs0, e', hi', hs, hv⟩ := hc.round hcall hst.inv hst.glob hL ht hargs hsz (b.atR a (.inRegion ops (i :: rest) :: k)) cs
            refine ⟨e', w', a.put o.dst v', ?_, (hst.of_step hi' hs).put hp hv, hs, p3, p4, p1⟩
            rw [hfin] at hs0
            exact .head (apply_round ho hw (op_notdefer hx (by simp)) hrun) hs0
          · cases h
        · cases h
      · rename_i d A1 hx
        split at h
        · cases h
        · rename_i hround
          split at h
          · rename_i fr1 hp
            simp only [Option.some.injEq, Prod.mk.injEq] at h
            obtain ⟨rfl, rfl⟩ := h
            obtain ⟨rfl, d', hrun, hd⟩ := hex hx
            obtain ⟨p1, p2, p3, p4⟩ := put_fields hp
            refine ⟨e, w, { a with defers := d' :: a.defers }.put o.dst undef, .one (apply_defer ho hw (hf.2.2 (by simpa using hround)) hrun), ?_, Step.refl e _ w, p3, p4, p1⟩
            refine ⟨hst.inv, hst.glob, ?_⟩
            exact put_rel (fr := { fr with defers := d :: fr.defers }) (a := { a with defers := d' :: a.defers }) ⟨hst.fr.tmps, .cons (.inl hd) hst.fr.defers⟩ hp (.flat rfl)
          · cases h
      · cases h
    · cases h
  · rename_i hwant
    split at h
    · rename_i fr1 hp
      simp only [Option.some.injEq, Prod.mk.injEq] at h
      obtain ⟨rfl, rfl⟩ := h
      obtain ⟨p1, p2, p3, p4⟩ := put_fields hp
      refine ⟨e, w, a.put o.dst undef, .one ?_, hst.put hp (.flat rfl), Step.refl e A w, p3, p4, p1⟩
      have := stepR_op_skip (P := P) (b := b) (a := a) (k := k) (cs := cs) (w := w) (ops := ops) (i := i) (rest := rest) (by simp [ho, hy]; simpa using hwant)
      rw [ho] at this
      exact this
    · cases h
theorem list_steps (hc : CallsOk P cc) (ops : Array Oper) (k : List Item) (cs : List Frame) {b : Frame} : ∀ (l : List Oper) (i : Nat) {fr fr' : Fr} {a : Act} {A A' : AS} {e : Env} {w : World},
    l = ops.toList.drop i → St e A w fr a → Fits fr b → evalList P cc ops l fr A = some (fr', A') →
    ∃ e' w' a', Steps P (lone (b.atR a (.inRegion ops ((List.range ops.size).drop i) :: k)) cs w) (lone (b.atR a' k) cs w') ∧ St e' A' w' fr' a' ∧ Step e A w e' A' w' ∧
      fr'.fn = fr.fn ∧ fr'.inRound = fr.inRound ∧ fr'.nt = fr.nt
  | [], i, fr, fr', a, A, A', e, w, hl, hst, hf, h => by
    simp only [evalList, Option.some.injEq, Prod.mk.injEq] at h
    obtain ⟨rfl, rfl⟩ := h
    have hi : ops.size ≤ i := by
      have := congrArg List.length hl
      simp at this; omega
    have hd : (List.range ops.size).drop i = [] := by simp [List.drop_eq_nil_iff, hi]
    rw [hd]
    exact ⟨e, w, a, .one stepR_region_end, hst, Step.refl e A w, rfl, rfl, rfl⟩
  | o :: l, i, fr, fr', a, A, A', e, w, hl, hst, hf, h => by
    have hi : i < ops.size := by
      rcases Nat.lt_or_ge i ops.size with hh | hh
      · exact hh
      · rw [List.drop_eq_nil_of_le (by simpa using hh)] at hl; cases hl
    have ho : ops[i]? = some o := by
      have := congrArg (fun l => l[0]?) hl
      simpa using this.symm
    have hl' : l = ops.toList.drop (i + 1) := by
      have := congrArg List.tail hl
      simpa using this
    have hr : (List.range ops.size).drop i = i :: (List.range ops.size).drop (i + 1) := by
      rw [List.drop_eq_getElem_cons (by simpa using hi)]
      simp
    unfold evalList at h
    split at h
    · rename_i fr1 A1 h1
      rw [hr]
      obtain ⟨e1, w1, a1, s1, st1, sp1, q1, q2, q3⟩ := op_steps (rest := (List.range ops.size).drop (i + 1)) hc hst hf ho h1 k cs
      have hf1 : Fits fr1 b := ⟨by rw [q1]; exact hf.1, rfl, by rw [q2]; exact hf.2.2⟩
      obtain ⟨e2, w2, a2, s2, st2, sp2, q4, q5, q6⟩ := list_steps hc ops k cs l (i + 1) hl' st1 hf1 h
      exact ⟨e2, w2, a2, s1.trans s2, st2, sp1.trans sp2, q4.trans q1, q5.trans q2, q6.trans q3⟩
    · cases h
def Out (P : Program) (m : Machine) (b : Frame) (k : List Item) (cs : List Frame) : AExit → Act → World → Prop
  | .normal, a, w => Steps P m (lone (b.atR a k) cs w)
  | .exit id, a, w => ∃ k', Steps P m (lone (b.atR a (.code (.exit id) :: k')) cs w) ∧ exitTo id k' = exitTo id k
  | .goto l, a, w => ∃ k', Steps P m (lone (b.atR a (.code (.goto l) :: k')) cs w) ∧ gotoIn l k' = gotoIn l k
  | .ret, a, w => ∃ k', Steps P m (lone (b.atR a (.code .ret :: k')) cs w)
theorem Out.of_steps {m m' : Machine} {b : Frame} {k : List Item} {cs : List Frame} {x : AExit} {a : Act} (h : Steps P m m') (h' : Out P m' b k cs x a w) : Out P m b k cs x a w := by
  cases x with
  | normal => exact h.trans h'
  | exit id => obtain ⟨k', s, q⟩ := h'; exact ⟨k', h.trans s, q⟩
  | goto l => obtain ⟨k', s, q⟩ := h'; exact ⟨k', h.trans s, q⟩
  | ret => obtain ⟨k', s⟩ := h'; exact ⟨k', h.trans s⟩
def CodeDoes (P : Program) (b : Frame) (c : Code) (e : Env) (A : AS) (w : World) (fr : Fr) (a : Act) (x : AExit) (fr' : Fr) (A' : AS) : Prop :=
  ∀ k cs, ∃ e' w' a', Out P (lone (b.atR a (.code c :: k)) cs w) b k cs x a' w' ∧ St e' A' w' fr' a' ∧ Step e A w e' A' w' ∧ fr'.fn = fr.fn ∧ fr'.inRound = fr.inRound ∧ fr'.nt = fr.nt
def DrawOk (P : Program) (draw : Array Oper → Fr → AS → Option (Fr × AS)) : Prop :=
  ∀ ⦃ops : Array Oper⦄ ⦃fr fr' : Fr⦄ ⦃A A' : AS⦄, draw ops fr A = some (fr', A') → ∀ ⦃e : Env⦄ ⦃w : World⦄ ⦃a : Act⦄ ⦃b : Frame⦄ ⦃id : Nat⦄, St e A w fr a → Fits fr b →
    CodeDoes P b (.region id ops true) e A w fr a .normal fr' A'
end Go.Dp
namespace Go.Dp
open Go
variable {P : Program} {cc : Calls2} {draw : Array Oper → Fr → AS → Option (Fr × AS)}
theorem stepR_scope {b : Frame} {a : Act} {k : List Item} {cs : List Frame} {w : World} {c : Code} :
    step P (lone (b.atR a (.code (.scope c) :: k)) cs w) = .next (lone (b.atR a (.code c :: .inScope c :: k)) cs w) :=
  step_lone_go (by simp [stepG, stepG.exec, Frame.atR])
theorem stepR_inScope {b : Frame} {a : Act} {k : List Item} {cs : List Frame} {w : World} {c : Code} :
    step P (lone (b.atR a (.inScope c :: k)) cs w) = .next (lone (b.atR a k) cs w) :=
  step_lone_go (by simp [stepG, stepG.exec, Frame.atR])
theorem Fits.of_same {fr fr' : Fr} {b : Frame} (h : Fits fr b) (h1 : fr'.fn = fr.fn) (h2 : fr'.inRound = fr.inRound) : Fits fr' b :=
  ⟨by rw [h1]; exact h.1, rfl, by rw [h2]; exact h.2.2⟩
def RunOk (P : Program) (run : Code → Fr → AS → Ran) : Prop :=
  ∀ ⦃c : Code⦄ ⦃fr fr' : Fr⦄ ⦃A A' : AS⦄ ⦃x : AExit⦄, run c fr A = some (x, fr', A') → ∀ ⦃e : Env⦄ ⦃w : World⦄ ⦃a : Act⦄ ⦃b : Frame⦄, St e A w fr a → Fits fr b → CodeDoes P b c e A w fr a x fr' A'
theorem jumps_does {run : Code → Fr → AS → Ran} (hrun : RunOk P run) {b : Frame} {c : Code} {k : List Item} {cs : List Frame} : ∀ (m : Nat) {r : Ran} {x : AExit} {fr' : Fr} {A' : AS}, jumps run c m r = some (x, fr', A') →
    ∀ ⦃m0 : Machine⦄ ⦃x0 : AExit⦄ ⦃fr0 : Fr⦄ ⦃A0 : AS⦄ ⦃e0 : Env⦄ ⦃w0 : World⦄ ⦃a0 : Act⦄, r = some (x0, fr0, A0) → Out P m0 b (.inScope c :: k) cs x0 a0 w0 → St e0 A0 w0 fr0 a0 → Fits fr0 b →
      ∃ e' w' a', Out P m0 b k cs x a' w' ∧ St e' A' w' fr' a' ∧ Step e0 A0 w0 e' A' w' ∧ fr'.fn = fr0.fn ∧ fr'.inRound = fr0.inRound ∧ fr'.nt = fr0.nt
  | 0, r, x, fr', A', h => by simp [jumps] at h
  | m + 1, r, x, fr', A', h => by
    intro m0 x0 fr0 A0 e0 w0 a0 hr hout hst hf
    subst hr
    simp only [jumps] at h
    cases x0 with
    | goto l =>
      obtain ⟨k', hs, hg⟩ := hout
      simp only at h
      cases hfl : findLabel c l with
      | none =>
        simp only [hfl, Option.some.injEq, Prod.mk.injEq] at h
        obtain ⟨rfl, rfl, rfl⟩ := h
        exact ⟨e0, w0, a0, ⟨k', hs, by rw [hg]; simp [gotoIn, hfl]⟩, hst, Step.refl _ _ _, rfl, rfl, rfl⟩
      | some rest =>
        simp only [hfl] at h
        cases hr2 : run rest fr0 A0 with
        | none =>
          rw [hr2] at h
          cases m <;> simp [jumps] at h
        | some q =>
          obtain ⟨x1, fr1, A1⟩ := q
          rw [hr2] at h
          have hgo : gotoIn l k' = some (.code rest :: .inScope c :: k) := by rw [hg]; simp [gotoIn, hfl]
          obtain ⟨e1, w1, a1, ho1, st1, sp1, q1, q2, q3⟩ := hrun hr2 hst hf (.inScope c :: k) cs
          have ho1' : Out P m0 b (.inScope c :: k) cs x1 a1 w1 := Out.of_steps (hs.trans (.one (stepR_goto hgo))) ho1
          obtain ⟨e2, w2, a2, ho2, st2, sp2, q4, q5, q6⟩ := jumps_does hrun m h rfl ho1' st1 (hf.of_same q1 q2)
          exact ⟨e2, w2, a2, ho2, st2, sp1.trans sp2, q4.trans q1, q5.trans q2, q6.trans q3⟩
    | normal =>
      simp only [Option.some.injEq, Prod.mk.injEq] at h
      obtain ⟨rfl, rfl, rfl⟩ := h
      exact ⟨e0, w0, a0, Steps.trans hout (.one stepR_inScope), hst, Step.refl _ _ _, rfl, rfl, rfl⟩
    | exit id =>
      simp only [Option.some.injEq, Prod.mk.injEq] at h
      obtain ⟨rfl, rfl, rfl⟩ := h
      obtain ⟨k', hs, hg⟩ := hout
      exact ⟨e0, w0, a0, ⟨k', hs, by rw [hg]; rfl⟩, hst, Step.refl _ _ _, rfl, rfl, rfl⟩
    | ret =>
      simp only [Option.some.injEq, Prod.mk.injEq] at h
      obtain ⟨rfl, rfl, rfl⟩ := h
      exact ⟨e0, w0, a0, hout, hst, Step.refl _ _ _, rfl, rfl, rfl⟩
theorem rel_func {e : Env} {n : Nat} {g : FuncId} {first captured : Array Value} {v : Value} (h : VR e n (.func (.func g) first captured) v) :
    ∃ ys vs : Array Value, v = .func (.func g) ys vs ∧ VRs e n first.toList ys.toList ∧ VRs e n captured.toList vs.toList := by
  cases h with
  | flat hfl =>
    simp only [Dp.flat, scalar, Bool.and_eq_true, beq_iff_eq, Array.size_eq_zero_iff] at hfl
    obtain ⟨h1, h2⟩ := hfl
    subst h1 h2
    exact ⟨_, _, rfl, .nil, .nil⟩
  | func h1 h2 => exact ⟨_, _, rfl, h1, h2⟩
theorem getLoop_run {w : World} {r : Nat} {l : Loop} (h : w.heap[r]? = some (.loop l)) : (Instr.getLoop r).run P w = .ok l w := by
  simp [Instr.getLoop, getObj_run h (by simp)]
theorem step_does (hc : CallsOk P cc) (hd : DrawOk P draw) {ih : Code → Fr → AS → Ran} (hih : RunOk P ih) : RunOk P (evalStep P cc draw ih) := by
  intro c fr fr' A A' x h e w a b hst hf
  cases c with
  | skip =>
    simp only [evalStep, Option.some.injEq, Prod.mk.injEq] at h
    obtain ⟨rfl, rfl, rfl⟩ := h
    exact fun k cs => ⟨e, w, a, .one stepR_skip, hst, Step.refl _ _ _, rfl, rfl, rfl⟩
  | label l =>
    simp only [evalStep, Option.some.injEq, Prod.mk.injEq] at h
    obtain ⟨rfl, rfl, rfl⟩ := h
    exact fun k cs => ⟨e, w, a, .one stepR_label, hst, Step.refl _ _ _, rfl, rfl, rfl⟩
  | region id ops dr =>
    simp only [evalStep] at h
    cases dr with
    | true =>
      simp only [if_true] at h
      split at h
      · rename_i fr1 A1 h1
        simp only [Option.some.injEq, Prod.mk.injEq] at h
        obtain ⟨rfl, rfl, rfl⟩ := h
        exact hd h1 hst hf
      · cases h
    | false =>
      simp only [Bool.false_eq_true, if_false] at h
      split at h
      · rename_i fr1 A1 h1
        simp only [Option.some.injEq, Prod.mk.injEq] at h
        obtain ⟨rfl, rfl, rfl⟩ := h
        intro k cs
        obtain ⟨e', w', a', s, st, sp, q⟩ := list_steps hc ops k cs ops.toList 0 (by simp) hst hf h1
        exact ⟨e', w', a', .head stepR_region s, st, sp, q⟩
      · cases h
  | seq c1 c2 =>
    simp only [evalStep] at h
    intro k cs
    cases h1 : ih c1 fr A with
    | none => simp [h1] at h
    | some q =>
      obtain ⟨x1, fr1, A1⟩ := q
      rw [h1] at h
      obtain ⟨e1, w1, a1, ho1, st1, sp1, q1, q2, q3⟩ := hih h1 hst hf (.code c2 :: k) cs
      cases x1 with
      | normal =>
        simp only at h
        obtain ⟨e2, w2, a2, ho2, st2, sp2, q4, q5, q6⟩ := hih h st1 (hf.of_same q1 q2) k cs
        exact ⟨e2, w2, a2, Out.of_steps (.head stepR_seq ho1) ho2, st2, sp1.trans sp2, q4.trans q1, q5.trans q2, q6.trans q3⟩
      | exit id =>
        simp only [Option.some.injEq, Prod.mk.injEq] at h
        obtain ⟨rfl, rfl, rfl⟩ := h
        obtain ⟨k', hs, hg⟩ := ho1
        exact ⟨e1, w1, a1, ⟨k', .head stepR_seq hs, by rw [hg]; rfl⟩, st1, sp1, q1, q2, q3⟩
      | goto l =>
        simp only [Option.some.injEq, Prod.mk.injEq] at h
        obtain ⟨rfl, rfl, rfl⟩ := h
        obtain ⟨k', hs, hg⟩ := ho1
        exact ⟨e1, w1, a1, ⟨k', .head stepR_seq hs, by rw [hg]; rfl⟩, st1, sp1, q1, q2, q3⟩
      | ret =>
        simp only [Option.some.injEq, Prod.mk.injEq] at h
        obtain ⟨rfl, rfl, rfl⟩ := h
        exact ⟨e1, w1, a1, Out.of_steps (.one stepR_seq) ho1, st1, sp1, q1, q2, q3⟩
  | cond o c1 c2 =>
    simp only [evalStep] at h
    split at h
    · rename_i t ht
      intro k cs
      have hev : a.eval o = .bool t := by
        have hxx : opndOk o = true := by
          cases o with
          | global g => simp [ev] at ht
          | const v => simp only [ev] at ht; subst ht; rfl
          | _ => rfl
        have := ev_rel hst.glob hst.fr.tmps o hxx
        rw [ht] at this
        exact bool_of this
      obtain ⟨e1, w1, a1, ho1, st1, sp1, q⟩ := hih h hst hf k cs
      exact ⟨e1, w1, a1, Out.of_steps (.one (stepR_cond hev)) ho1, st1, sp1, q⟩
    · cases h
  | block id c1 =>
    simp only [evalStep] at h
    intro k cs
    cases h1 : ih c1 fr A with
    | none => simp [h1] at h
    | some q =>
      obtain ⟨x1, fr1, A1⟩ := q
      rw [h1] at h
      obtain ⟨e1, w1, a1, ho1, st1, sp1, qq⟩ := hih h1 hst hf (.inBlock id :: k) cs
      cases x1 with
      | normal =>
        simp only [Option.some.injEq, Prod.mk.injEq] at h
        obtain ⟨rfl, rfl, rfl⟩ := h
        exact ⟨e1, w1, a1, .head stepR_block (Steps.trans ho1 (.one stepR_inBlock)), st1, sp1, qq⟩
      | exit id' =>
        simp only at h
        obtain ⟨k', hs, hg⟩ := ho1
        split at h
        · rename_i hid
          simp only [Nat.beq_eq] at hid
          subst hid
          simp only [Option.some.injEq, Prod.mk.injEq] at h
          obtain ⟨rfl, rfl, rfl⟩ := h
          have he : exitTo id' k' = some k := by rw [hg]; simp [exitTo]
          exact ⟨e1, w1, a1, .head stepR_block (hs.trans (.one (stepR_exit he))), st1, sp1, qq⟩
        · rename_i hid
          simp only [Nat.beq_eq] at hid
          simp only [Option.some.injEq, Prod.mk.injEq] at h
          obtain ⟨rfl, rfl, rfl⟩ := h
          refine ⟨e1, w1, a1, ⟨k', .head stepR_block hs, ?_⟩, st1, sp1, qq⟩
          rw [hg]
          have : (id == id') = false := by simp; exact fun h => hid h.symm
          simp [exitTo, this]
      | goto l =>
        simp only [Option.some.injEq, Prod.mk.injEq] at h
        obtain ⟨rfl, rfl, rfl⟩ := h
        obtain ⟨k', hs, hg⟩ := ho1
        exact ⟨e1, w1, a1, ⟨k', .head stepR_block hs, by rw [hg]; rfl⟩, st1, sp1, qq⟩
      | ret =>
        simp only [Option.some.injEq, Prod.mk.injEq] at h
        obtain ⟨rfl, rfl, rfl⟩ := h
        exact ⟨e1, w1, a1, Out.of_steps (.one stepR_block) ho1, st1, sp1, qq⟩
  | loop c1 =>
    simp only [evalStep] at h
    intro k cs
    cases h1 : ih c1 fr A with
    | none => simp [h1] at h
    | some q =>
      obtain ⟨x1, fr1, A1⟩ := q
      rw [h1] at h
      obtain ⟨e1, w1, a1, ho1, st1, sp1, q1, q2, q3⟩ := hih h1 hst hf (.inLoop c1 :: k) cs
      cases x1 with
      | normal =>
        simp only at h
        obtain ⟨e2, w2, a2, ho2, st2, sp2, q4, q5, q6⟩ := hih h st1 (hf.of_same q1 q2) k cs
        have hsame : ∀ {a : Act} {w : World}, step P (lone (b.atR a (.inLoop c1 :: k)) cs w) = step P (lone (b.atR a (.code (.loop c1) :: k)) cs w) := fun {a w} => by
          rw [stepR_inLoop, stepR_loop]
        have hfirst : Out P (lone (b.atR a1 (.inLoop c1 :: k)) cs w1) b k cs x a2 w2 := by
          have hne : ∀ {m : Machine}, Steps P (lone (b.atR a1 (.code (.loop c1) :: k)) cs w1) m → m = lone (b.atR a1 (.code (.loop c1) :: k)) cs w1 ∨ Steps P (lone (b.atR a1 (.inLoop c1 :: k)) cs w1) m := by
            rintro m ⟨n, hn⟩
            cases n with
            | zero => left; simp only [runN, Stepped.next.injEq] at hn; exact hn.symm
            | succ n =>
              right
              refine ⟨n + 1, ?_⟩
              simp only [runN] at hn ⊢
              rw [hsame]; exact hn
          have hnot : ∀ {a' : Act} {w' : World} {t : List Item}, lone (b.atR a' t) cs w' = lone (b.atR a1 (.code (.loop c1) :: k)) cs w1 → t = .code (.loop c1) :: k := by
            intro a' w' t hh
            simp [lone, Frame.atR] at hh
            exact hh.2.2.1
          cases x with
          | normal =>
            rcases hne ho2 with hh | hh
            · exact absurd (hnot hh) (by simp)
            · exact hh
          | exit id =>
            obtain ⟨k', hs, hg⟩ := ho2
            rcases hne hs with hh | hh
            · exact absurd (hnot hh) (by simp)
            · exact ⟨k', hh, hg⟩
          | goto l =>
            obtain ⟨k', hs, hg⟩ := ho2
            rcases hne hs with hh | hh
            · exact absurd (hnot hh) (by simp)
            · exact ⟨k', hh, hg⟩
          | ret =>
            obtain ⟨k', hs⟩ := ho2
            rcases hne hs with hh | hh
            · exact absurd (hnot hh) (by simp)
            · exact ⟨k', hh⟩
        exact ⟨e2, w2, a2, Out.of_steps (.head stepR_loop ho1) hfirst, st2, sp1.trans sp2, q4.trans q1, q5.trans q2, q6.trans q3⟩
      | exit id =>
        simp only [Option.some.injEq, Prod.mk.injEq] at h
        obtain ⟨rfl, rfl, rfl⟩ := h
        obtain ⟨k', hs, hg⟩ := ho1
        exact ⟨e1, w1, a1, ⟨k', .head stepR_loop hs, by rw [hg]; rfl⟩, st1, sp1, q1, q2, q3⟩
      | goto l =>
        simp only [Option.some.injEq, Prod.mk.injEq] at h
        obtain ⟨rfl, rfl, rfl⟩ := h
        obtain ⟨k', hs, hg⟩ := ho1
        exact ⟨e1, w1, a1, ⟨k', .head stepR_loop hs, by rw [hg]; rfl⟩, st1, sp1, q1, q2, q3⟩
      | ret =>
        simp only [Option.some.injEq, Prod.mk.injEq] at h
        obtain ⟨rfl, rfl, rfl⟩ := h
        exact ⟨e1, w1, a1, Out.of_steps (.one stepR_loop) ho1, st1, sp1, q1, q2, q3⟩
  | exit id =>
    simp only [evalStep, Option.some.injEq, Prod.mk.injEq] at h
    obtain ⟨rfl, rfl, rfl⟩ := h
    exact fun k cs => ⟨e, w, a, ⟨k, .refl _ _, rfl⟩, hst, Step.refl _ _ _, rfl, rfl, rfl⟩
  | goto l =>
    simp only [evalStep, Option.some.injEq, Prod.mk.injEq] at h
    obtain ⟨rfl, rfl, rfl⟩ := h
    exact fun k cs => ⟨e, w, a, ⟨k, .refl _ _, rfl⟩, hst, Step.refl _ _ _, rfl, rfl, rfl⟩
  | ret =>
    simp only [evalStep, Option.some.injEq, Prod.mk.injEq] at h
    obtain ⟨rfl, rfl, rfl⟩ := h
    exact fun k cs => ⟨e, w, a, ⟨k, .refl _ _⟩, hst, Step.refl _ _ _, rfl, rfl, rfl⟩
  | rangeFunc f params assign body =>
    simp only [evalStep] at h
    split at h
    · cases h
    rename_i hround
    have hro : b.roundOf = none := hf.2.2 (by simpa using hround)
    split at h
    case h_2 => cases h
    rename_i g first captured hfv
    split at h
    case isFalse => cases h
    rename_i hcond
    simp only [Bool.and_eq_true] at hcond
    obtain ⟨hb, hfo⟩ := hcond
    split at h
    case h_2 => cases h
    rename_i v0 A3 hcall
    split at h
    case h_2 => cases h
    rename_i fn t nt params1 assign1 body1 st pending dl hL
    intro k cs
    have hfr := ev_rel hst.glob hst.fr.tmps f hfo
    rw [hfv] at hfr
    obtain ⟨ys, vs, hfv', hy, hv⟩ := rel_func hfr
    obtain ⟨g1, s1⟩ := new_sound hst.inv .dlist (.deferred (some [])) 0 (by simp only [ObjAt, Env.bind, if_true]; exact push_get_eq w _)
    generalize he1 : e.bind A.next w.heap.size 0 0 = e1 at g1 s1
    have hl1 : e1.loc A.next = w.heap.size := by rw [← he1]; simp [Env.bind]
    have hsz1 : (w.push (.deferred (some []))).heap.size = w.heap.size + 1 := by simp [World.push]
    have hA1 : (A.new .dlist).next = A.next + 1 := rfl
    have htm := (hst.fr.step s1).tmps
    have hfits : ObjAt (e1.bind (A.new .dlist).next (w.push (.deferred (some []))).heap.size 0 0) ((A.new .dlist).next + 1) (A.new .dlist).ro
        ((w.push (.deferred (some []))).push (.loop { state := .ready, pending := none, fn := fr.fn, tmps := a.tmps, params := params, assign := assign, body := body, defers := w.heap.size })) (A.new .dlist).next
        (.loop fr.fn fr.t fr.nt params assign body .ready none A.next) := by
      refine ⟨by rw [hA1]; omega, a.tmps, htm.mono (e1.agrees_bind _ _ _ _) (Nat.le_succ _), ?_⟩
      have hne : ¬ A.next = (A.new .dlist).next := by rw [hA1]; omega
      simp only [Env.bind, if_true, hne, if_false, hl1]
      exact push_get_eq _ _
    obtain ⟨g2, s2⟩ := new_sound g1 _ _ 0 hfits
    generalize he2 : e1.bind (A.new .dlist).next (w.push (.deferred (some []))).heap.size 0 0 = e2 at g2 s2
    have hl2 : e2.loc (A.new .dlist).next = w.heap.size + 1 := by rw [← he2, ← hsz1]; simp [Env.bind]
    have s12 := s1.trans s2
    have hglob2 := hst.glob.step s12
    have hent : (Instr.enterLoop b.fn a.tmps params assign body b.roundOf).run P w = .ok (w.heap.size + 1, [{ target := .collected w.heap.size, args := #[] }])
        ((w.push (.deferred (some []))).push (.loop { state := .ready, pending := none, fn := fr.fn, tmps := a.tmps, params := params, assign := assign, body := body, defers := w.heap.size })) := by
      rw [hro, hf.1]
      simp only [Instr.enterLoop, Sem.run_bind, run_newObj, Result.andThen_ok, Sem.run_pure]
      rw [← hsz1]
      rfl
    have hres : ∀ W : World, (resolve a.eval (rangeCall f (w.heap.size + 1)) 0).run P W = .ok { target := .fn (.func g) vs, args := ys ++ #[.func (.yield (w.heap.size + 1)) #[] #[]] } W := by
      intro W
      simp only [resolve, hfv', Deferred.ofValue, Sem.run_pure]
      simp [Act.eval]
    have hinv : ∀ W : World, (invoke (.fn (.func g) vs) (ys ++ #[.func (.yield (w.heap.size + 1)) #[] #[]])).run P W = .ok (.enter g (ys ++ #[.func (.yield (w.heap.size + 1)) #[] #[]] ++ vs)) W := by
      intro W
      simp only [invoke]
      exact callFunc_run hb _ W
    have henter := stepR_rangeFunc (P := P) (b := b) (a := a) (k := k) (cs := cs) (w := w) (g := f) (ps := params) (assign := assign) (body := body) hent (hres _) (hinv _)
    have hargs : VRs e2 ((A.new .dlist).new (.loop fr.fn fr.t fr.nt params assign body .ready none A.next)).next (first.toList ++ [.func (.yield (A.new .dlist).next) #[] #[]] ++ captured.toList)
        (ys ++ #[.func (.yield (w.heap.size + 1)) #[] #[]] ++ vs : Array Value).toList := by
      have hyv : VR e2 ((A.new .dlist).next + 1) (.func (.yield (A.new .dlist).next) #[] #[]) (.func (.yield (w.heap.size + 1)) #[] #[]) := by
        have := VR.yield (e := e2) (n := (A.new .dlist).next + 1) (B := (A.new .dlist).next) (Nat.lt_succ_self _)
        rw [hl2] at this; exact this
      simpa using ((hy.step s12).append (.cons hyv .nil)).append (hv.step s12)
    obtain ⟨fr0, w3, v3, hs3, hfn3, hleave, e3, g3, s3, hv3⟩ := hc.call hcall hb g2 hglob2 hargs (b.atR { a with defers := [{ target := .collected w.heap.size, args := #[] }] ++ a.defers } (.inRangeFunc (w.heap.size + 1) :: k) :: cs)
    have s123 := s12.trans s3
    have hloc3 : e3.loc (A.new .dlist).next = w.heap.size + 1 := by
      rw [(s3.agrees (A.new .dlist).next (Nat.lt_succ_self _)).1]; exact hl2
    have hloc0 : e3.loc A.next = w.heap.size := by
      have h1 : A.next < (A.new .dlist).next := Nat.lt_succ_self _
      rw [(s3.agrees A.next (Nat.lt_of_lt_of_le h1 (Nat.le_succ _))).1, (s2.agrees A.next h1).1]; exact hl1
    obtain ⟨hdl, tmps3, ht3, hb3⟩ := g3.obj _ _ hL
    rw [hloc3] at hb3
    split at h
    · cases h
    rename_i hnb
    split at h
    case isFalse => cases h
    rename_i hro3
    simp only [Nat.ble_eq] at hro3
    have hend : (Instr.endLoop (w.heap.size + 1)).run P w3 = .ok pending { w3 with heap := w3.heap.setIfInBounds (w.heap.size + 1) (.loop { state := .exhausted, pending := pending, fn := fn, tmps := tmps3, params := params1, assign := assign1, body := body1, defers := e3.loc dl }) } := by
      simp only [Instr.endLoop, Sem.run_bind, getLoop_run hb3, Result.andThen_ok]
      have : (st == .busy) = false := by cases st <;> first | rfl | exact absurd rfl (hnb · )
      simp only [this, Bool.false_eq_true, if_false, Sem.run_bind, setObj_run hb3 (by simp), Result.andThen_ok, Sem.run_pure]
    have hp := putObj_sound g3 hL hro3 (by rw [hloc3]; exact hb3) (oa' := .loop fn t nt params1 assign1 body1 .exhausted pending dl)
      (o' := .loop { state := .exhausted, pending := pending, fn := fn, tmps := tmps3, params := params1, assign := assign1, body := body1, defers := e3.loc dl })
      ⟨hdl, tmps3, ht3, (heap_set (by rw [hloc3]; exact hb3)).1⟩
    rw [hloc3] at hp
    obtain ⟨g4, s4⟩ := hp
    have s1234 := s123.trans s4
    have hst4 : St e3 (A3.put (A.new .dlist).next (some (.loop fn t nt params1 assign1 body1 .exhausted pending dl)))
        { w3 with heap := w3.heap.setIfInBounds (w.heap.size + 1) (.loop { state := .exhausted, pending := pending, fn := fn, tmps := tmps3, params := params1, assign := assign1, body := body1, defers := e3.loc dl }) }
        { fr with defers := { target := .collected A.next, args := #[] } :: fr.defers } { a with defers := [{ target := .collected w.heap.size, args := #[] }] ++ a.defers } := by
      have h4 := hst.of_step g4 s1234
      refine ⟨g4, h4.glob, h4.fr.tmps, .cons (.inr ⟨A.next, ?_, rfl, by rw [hloc0]⟩) h4.fr.defers⟩
      have h1 : A.next < (A.new .dlist).next := Nat.lt_succ_self _
      exact Nat.lt_of_lt_of_le h1 (Nat.le_trans (Nat.le_succ _) (Nat.le_trans s3.next s4.next))
    have hback : Steps P (lone (b.atR a (.code (.rangeFunc f params assign body) :: k)) cs w)
        (lone (b.atR { a with defers := [{ target := .collected w.heap.size, args := #[] }] ++ a.defers } ((pending.map Item.code).toList ++ k)) cs
          { w3 with heap := w3.heap.setIfInBounds (w.heap.size + 1) (.loop { state := .exhausted, pending := pending, fn := fn, tmps := tmps3, params := params1, assign := assign1, body := body1, defers := e3.loc dl }) }) := by
      refine .head henter (hs3.trans (.head ?_ (.one (stepR_endRangeFunc hend))))
      rw [← finish_atR_inRangeFunc (w.heap.size + 1) v3]
      exact step_leave_returned hleave
    cases pending with
    | none =>
      simp only [Option.some.injEq, Prod.mk.injEq] at h
      obtain ⟨rfl, rfl, rfl⟩ := h
      exact ⟨e3, _, _, hback, hst4, s1234, rfl, rfl, rfl⟩
    | some c1 =>
      simp only at h
      obtain ⟨e5, w5, a5, ho5, st5, sp5, qq⟩ := hih h hst4 (b := b) ⟨hf.1, rfl, hf.2.2⟩ k cs
      exact ⟨e5, w5, a5, Out.of_steps hback ho5, st5, s1234.trans sp5, qq⟩
  | scope c => simp [evalStep] at h
  | refuse why => simp [evalStep] at h
theorem code_does (hc : CallsOk P cc) (hd : DrawOk P draw) : ∀ n, RunOk P (evalCode P cc draw n)
  | 0 => by intro c fr fr' A A' x h; simp [evalCode] at h
  | n + 1 => by
    have ih := code_does hc hd n
    intro c fr fr' A A' x h e w a b hst hf
    by_cases hsc : ∃ c1, c = .scope c1
    · obtain ⟨c1, rfl⟩ := hsc
      simp only [evalCode] at h
      intro k cs
      cases h1 : evalCode P cc draw n c1 fr A with
      | none => rw [h1] at h; cases n <;> simp [jumps] at h
      | some q =>
        obtain ⟨x1, fr1, A1⟩ := q
        rw [h1] at h
        obtain ⟨e1, w1, a1, ho1, st1, sp1, q1, q2, q3⟩ := ih h1 hst hf (.inScope c1 :: k) cs
        obtain ⟨e2, w2, a2, ho2, st2, sp2, q4, q5, q6⟩ := jumps_does ih n h rfl (Out.of_steps (.one stepR_scope) ho1) st1 (hf.of_same q1 q2)
        exact ⟨e2, w2, a2, ho2, st2, sp1.trans sp2, q4.trans q1, q5.trans q2, q6.trans q3⟩
    · have : evalCode P cc draw (n + 1) c fr A = evalStep P cc draw (evalCode P cc draw n) c fr A := by
        cases c <;> first | rfl | exact absurd ⟨_, rfl⟩ hsc
      rw [this] at h
      exact step_does hc hd ih h hst hf
end Go.Dp
namespace Go.Dp
open Go
variable {P : Program} {cc : Calls2} {draw : Array Oper → Fr → AS → Option (Fr × AS)}
theorem setAll_get : ∀ (vs : List Value) (k : Nat) (t : Trie Value) (j : Nat), (setAll t k vs).get j = if k ≤ j ∧ j < k + vs.length then vs[j - k]? else t.get j
  | [], k, t, j => by
    have : ¬ (k ≤ j ∧ j < k + ([] : List Value).length) := by simp
    rw [if_neg this]; rfl
  | v :: vs, k, t, j => by
    simp only [setAll, setAll_get vs, Trie.get_set]
    by_cases h1 : k + 1 ≤ j ∧ j < k + 1 + vs.length
    · have h2 : k ≤ j ∧ j < k + (v :: vs).length := by simp; omega
      rw [if_pos h1, if_pos h2]
      have : j - k = (j - (k + 1)) + 1 := by omega
      rw [this]; simp
    · rw [if_neg h1]
      by_cases hk : k = j
      · subst hk
        have h2 : k ≤ k ∧ k < k + (v :: vs).length := by simp
        rw [if_pos rfl, if_pos h2]; simp
      · have h2 : ¬ (k ≤ j ∧ j < k + (v :: vs).length) := by simp; omega
        rw [if_neg hk, if_neg h2]
theorem enter_rel {e : Env} {n : Nat} {args : List Value} {args' : Array Value} {f : FuncId} {fn : Func} (h : VRs e n args args'.toList) :
    FrRel e n (enterFr f fn args) { tmps := args' ++ Array.replicate (fn.ntmps - args'.size) undef, defers := [] } := by
  have hl := h.length
  have hsz : args'.size = args.length := by simpa using hl
  refine ⟨⟨?_, fun k => ?_, fun k hk => ?_⟩, .nil⟩
  · simp [enterFr, hsz]; omega
  · simp only [enterFr, setAll_get, Nat.zero_le, true_and, Nat.zero_add, Nat.sub_zero, Trie.get_leaf]
    by_cases hk : k < args.length
    · rw [if_pos hk]
      obtain ⟨y, hy, r⟩ := h.get (i := k) (x := args[k]) (by simp [hk])
      have hy' : args'[k]? = some y := by simpa using hy
      have h1 : (args' ++ Array.replicate (fn.ntmps - args'.size) undef).getD k undef = y := by
        rw [Array.getD_eq_getD_getElem?, Array.getElem?_append, if_pos (by omega), hy']; rfl
      rw [h1]
      simpa [hk] using r
    · rw [if_neg hk]
      have h1 : (args' ++ Array.replicate (fn.ntmps - args'.size) undef).getD k undef = undef := by
        rw [Array.getD_eq_getD_getElem?, Array.getElem?_append, if_neg (by omega), Array.getElem?_replicate]
        split <;> rfl
      rw [h1]
      exact .flat rfl
  · simp only [enterFr, setAll_get, Nat.zero_le, true_and, Nat.zero_add, Nat.sub_zero, Trie.get_leaf]
    have hk' : max args.length fn.ntmps ≤ k := hk
    rw [if_neg (by omega)]
theorem params_rel {e : Env} {n nt : Nat} : ∀ {ps : List Tmp} {args : List Value} {args' : List Value} {t : Trie Value} {tmps : Array Value}, TmpsRel e n t nt tmps → VRs e n args args' →
    TmpsRel e n (setParams nt t (ps.zip args)) nt ((ps.zip args').foldl (fun tmps (t, a) => tmps.setIfInBounds t a) tmps)
  | [], _, _, _, _, h, _ => by simpa [setParams] using h
  | _ :: _, [], [], _, _, h, .nil => by simpa [setParams] using h
  | p :: ps, x :: xs, y :: ys, t, tmps, h, .cons a r => by
    simp only [List.zip_cons_cons, setParams, List.foldl_cons]
    refine params_rel ?_ r
    obtain ⟨h1, h2, h3⟩ := h
    by_cases hp : p < nt
    · rw [if_pos (by simpa using hp)]
      refine ⟨by simpa using h1, fun k => ?_, fun k hk => ?_⟩
      · rw [Trie.get_set]
        by_cases hpk : p = k
        · subst hpk
          have hlt : p < tmps.size := h1 ▸ hp
          simpa [Array.getD_eq_getD_getElem?, hlt] using a
        · have := h2 k
          simp only [hpk, if_false]
          simpa [Array.getD_eq_getD_getElem?, Array.getElem?_setIfInBounds, hpk] using this
      · rw [Trie.get_set]
        have : ¬ p = k := fun hpk => absurd (hpk ▸ hp : k < nt) (Nat.not_lt.2 hk)
        simp only [this, if_false]
        exact h3 k hk
    · rw [if_neg (by simpa using hp)]
      have : tmps.setIfInBounds p y = tmps := by
        apply Array.ext_getElem?
        intro i
        rw [Array.getElem?_setIfInBounds]
        have hsz : ¬ p < tmps.size := by rw [h1]; exact hp
        by_cases hpi : p = i
        · subst hpi; simp [hsz]
        · simp [hpi]
      rw [this]
      exact ⟨h1, h2, h3⟩
def resOf (tmps : Array Value) (r : ResultVar) : Sem Value :=
  match r with
  | .tmp t => pure (tmps.getD t undef)
  | .cell a t => do loadVar t (← asAddr (tmps.getD a undef))
theorem results_rel {e : Env} {A : AS} {w : World} {fr : Fr} {a : Act} (hst : St e A w fr a) : ∀ (rs : List ResultVar) {vs : List Value}, aResults P fr A rs = some vs →
    ∃ us, (rs.mapM (resOf a.tmps)).run P w = .ok us w ∧ VRs e A.next vs us
  | [], vs, h => by
    simp only [aResults, Option.some.injEq] at h; subst h
    exact ⟨[], rfl, .nil⟩
  | r :: rs, vs, h => by
    simp only [aResults] at h
    split at h
    · rename_i v hv
      split at h
      · rename_i vs1 hvs
        simp only [Option.some.injEq] at h; subst h
        obtain ⟨us, hus, hr⟩ := results_rel hst rs hvs
        have hev := fun t => ev_rel hst.glob hst.fr.tmps (.tmp t) rfl
        cases r with
        | tmp t =>
          simp only [aResult, Option.some.injEq] at hv; subst hv
          refine ⟨a.tmps.getD t undef :: us, ?_, .cons (hev t) hr⟩
          simp only [List.mapM_cons, resOf, Sem.run_bind, Sem.run_pure, Result.andThen_ok]
          rw [hus]; rfl
        | cell x t =>
          simp only [aResult] at hv
          obtain ⟨e', w', u, hrun, hi', hs, hu⟩ := load_sound (P := P) hst.inv hv (hev x)
          have hload : (Instr.loadAt t (a.eval (.tmp x))).run P w = .ok u w' := hrun
          have hshape : ∃ ad, a.eval (.tmp x) = .pointer (some ad) := by
            have hx := hev x
            unfold aLoad at hv
            split at hv
            · rename_i B o hq
              rw [hq] at hx
              exact some_ptr_of hx
            · cases hv
          obtain ⟨ad, had⟩ := hshape
          have hrun2 : (loadVar t ad).run P w = .ok u w' := by
            rw [had] at hload
            simpa [Instr.loadAt, Instr.sureAddr] using hload
          have hww : w' = w ∧ VR e A.next v u := by
            have h2 := load_same (P := P) hst.inv hv (hev x)
            obtain ⟨u2, h3, h4⟩ := h2
            rw [h3] at hload
            simp only [Result.ok.injEq] at hload
            exact ⟨hload.2.symm, hload.1 ▸ h4⟩
          obtain ⟨rfl, hvu⟩ := hww
          refine ⟨u :: us, ?_, .cons hvu hr⟩
          have had' : a.tmps.getD x undef = .pointer (some ad) := had
          have hone : (resOf a.tmps (.cell x t)).run P w' = .ok u w' := by
            simp only [resOf, Sem.run_bind, had', asAddr, Sem.run_pure, Result.andThen_ok, hrun2]
          simp only [List.mapM_cons, Sem.run_bind, hone, hus, Sem.run_pure, Result.andThen_ok]
      · cases h
    · cases h
theorem told_rel {e : Env} {n : Nat} {vs us : List Value} (h : VRs e n vs us) : VR e n (told vs) (if h : us.toArray.size = 1 then us.toArray[0] else .tuple us.toArray) := by
  cases h with
  | nil => exact .flat rfl
  | cons a t =>
    cases t with
    | nil => simpa [told] using a
    | cons b t =>
      simp [told]
      exact .tuple (.cons a (.cons b t))
theorem results_run {e : Env} {A : AS} {w : World} {fr : Fr} {a : Act} (hst : St e A w fr a) (fn : Func) {vs : List Value} (h : aResults P fr A fn.results.toList = some vs) :
    ∃ v, (results fn a.tmps).run P w = .ok v w ∧ VR e A.next (told vs) v := by
  obtain ⟨us, hus, hr⟩ := results_rel hst _ h
  refine ⟨_, ?_, told_rel hr⟩
  have h1 : results fn a.tmps = (do let vs ← fn.results.mapM (resOf a.tmps); pure (if h : vs.size = 1 then vs[0] else .tuple vs)) := rfl
  have h2 : (fn.results.mapM (resOf a.tmps) : Sem (Array Value)) = List.toArray <$> fn.results.toList.mapM (resOf a.tmps) := Array.mapM_eq_mapM_toList
  rw [h1, h2]
  simp only [Sem.run_bind, Sem.run_map, hus, Result.andThen_ok, Sem.run_pure]
end Go.Dp
namespace Go.Dp
open Go
variable {P : Program} {cc : Calls2} {draw : Array Oper → Fr → AS → Option (Fr × AS)}
theorem step_collected {fr : Frame} {cs : List Frame} {w w' : World} {L : Nat} {args : Array Value} {ds calls : List Deferred} (hm : fr.mode = .returning) (hd : fr.defers = { target := .collected L, args := args } :: ds)
    (hr : (Instr.takeDeferred L).run P w = .ok calls w') : step P (lone fr cs w) = .next (lone { fr with defers := calls ++ ds } cs w') :=
  step_lone_go (by simp [stepG, unwind, hm, hd, Sem.runT_eq, hr, GStep.bare_after])
def BodyOk (P : Program) (run : FuncId → List Value → AS → Option (Func × Fr × AS)) : Prop :=
  ∀ ⦃f : FuncId⦄ ⦃args : List Value⦄ ⦃A A' : AS⦄ ⦃fn : Func⦄ ⦃fr : Fr⦄, run f args A = some (fn, fr, A') → P.funcs[f]? = some fn ∧
    ∀ ⦃e : Env⦄ ⦃w : World⦄ ⦃args' : Array Value⦄ (kind : CallKind) (cs : List Frame), Inv e A w → Glob e A → VRs e A.next args args'.toList →
      ∃ e' w' a' fr', Steps P (lone (Frame.enter P f args' kind) cs w) (lone fr' cs w') ∧ fr'.mode = .returning ∧ fr'.fn = f ∧ fr'.kind = kind ∧ fr'.tmps = a'.tmps ∧ fr'.defers = a'.defers ∧
        St e' A' w' fr a' ∧ Step e A w e' A' w'
theorem body_ok (hc : CallsOk P cc) (hd : DrawOk P draw) (fuel : Nat) : BodyOk P (evalBody P cc draw fuel) := by
  intro f args A A' fn fr h
  unfold evalBody at h
  split at h
  · rename_i fn0 hf
    split at h
    · rename_i c hbody
      have key : ∀ (x : AExit) (fr1 : Fr) (A1 : AS), evalCode P cc draw fuel c (enterFr f fn0 args) A = some (x, fr1, A1) → (x = .normal ∨ x = .ret) →
          P.funcs[f]? = some fn0 ∧ ∀ ⦃e : Env⦄ ⦃w : World⦄ ⦃args' : Array Value⦄ (kind : CallKind) (cs : List Frame), Inv e A w → Glob e A → VRs e A.next args args'.toList →
          ∃ e' w' a' fr', Steps P (lone (Frame.enter P f args' kind) cs w) (lone fr' cs w') ∧ fr'.mode = .returning ∧ fr'.fn = f ∧ fr'.kind = kind ∧ fr'.tmps = a'.tmps ∧ fr'.defers = a'.defers ∧
            St e' A1 w' fr1 a' ∧ Step e A w e' A1 w' := by
        intro x fr1 A1 hx hxx
        refine ⟨hf, fun e w args' kind cs hi hg ha => ?_⟩
        let b : Frame := { (default : Frame) with fn := f, kind := kind }
        let a0 : Act := { tmps := args' ++ Array.replicate (fn0.ntmps - args'.size) undef, defers := [] }
        have henter : Frame.enter P f args' kind = b.atR a0 [.code c] := by
          simp [Frame.enter, Frame.atR, hf, hbody, b, a0]
          rfl
        have hst : St e A w (enterFr f fn0 args) a0 := ⟨hi, hg, enter_rel ha⟩
        have hfit : Fits (enterFr f fn0 args) b := ⟨rfl, rfl, fun _ => rfl⟩
        obtain ⟨e', w', a', ho, st, sp, _⟩ := code_does hc hd fuel hx hst hfit [] cs
        rw [← henter] at ho
        rcases hxx with rfl | rfl
        · exact ⟨e', w', a', _, Steps.trans ho (.one (stepR_end rfl)), rfl, rfl, rfl, rfl, rfl, st, sp⟩
        · obtain ⟨k', hs⟩ := ho
          exact ⟨e', w', a', _, hs.trans (.one (stepR_ret rfl)), rfl, rfl, rfl, rfl, rfl, st, sp⟩
      split at h
      · rename_i fr1 A1 hx
        simp only [Option.some.injEq, Prod.mk.injEq] at h
        obtain ⟨rfl, rfl, rfl⟩ := h
        exact key _ _ _ hx (.inl rfl)
      · rename_i fr1 A1 hx
        simp only [Option.some.injEq, Prod.mk.injEq] at h
        obtain ⟨rfl, rfl, rfl⟩ := h
        exact key _ _ _ hx (.inr rfl)
      · cases h
    · cases h
  · cases h
theorem leave_ok {run : FuncId → List Value → AS → Option (Func × Fr × AS)} (hb : BodyOk P run) : ∀ (ds : List Deferred) {A A' : AS}, leave run P ds A = some A' →
    ∀ ⦃e : Env⦄ ⦃w : World⦄ ⦃fr : Frame⦄ ⦃cs : List Frame⦄, Inv e A w → Glob e A → fr.mode = .returning → DefsRel e A.next ds fr.defers →
      ∃ e' w', Steps P (lone fr cs w) (lone { fr with defers := [] } cs w') ∧ Inv e' A' w' ∧ Step e A w e' A' w'
  | [], A, A', h => by
    intro e w fr cs hi hg hm hd
    simp only [leave, Option.some.injEq] at h; subst h
    have : fr.defers = [] := by
      generalize fr.defers = l at hd
      cases hd; rfl
    have hfr : ({ fr with defers := [] } : Frame) = fr := by cases fr; simp at this; subst this; rfl
    rw [hfr]
    exact ⟨e, w, .refl _ _, hi, Step.refl _ _ _⟩
  | d :: ds, A, A', h => by
    intro e w fr cs hi hg hm hd
    obtain ⟨d', ds', hdef, hdd, hrest⟩ : ∃ d' ds', fr.defers = d' :: ds' ∧ DefRel e A.next d d' ∧ DefsRel e A.next ds ds' := by
      generalize hl : fr.defers = l at hd
      cases hd with
      | cons a t => exact ⟨_, _, rfl, a, t⟩
    simp only [leave] at h
    split at h
    · rename_i g cap ht
      split at h
      · rename_i hbody
        split at h
        · rename_i fn fr1 A1 hrun
          split at h
          · rename_i hcond
            simp only [Bool.and_eq_true, List.isEmpty_iff] at hcond
            rcases hdd with ⟨g', c1, c1', h1, h2, h3, h4⟩ | ⟨L, h1, h2, h3⟩
            · rw [ht] at h1
              simp only [Target.fn.injEq, Fn.func.injEq] at h1
              obtain ⟨rfl, rfl⟩ := h1
              obtain ⟨hfun, hbd⟩ := hb hrun
              have hinv : (invoke d'.target d'.args).run P w = .ok (.enter g (d'.args ++ c1')) w := by
                rw [h2]
                simp only [invoke]
                exact callFunc_run hbody _ w
              have h1s := step_defer (P := P) (fr := fr) (cs := cs) (w := w) (d := d') (ds := ds') (by rw [hm]; simp) hdef h2 hinv
              have hargs : VRs e A.next (d.args.toList ++ cap.toList) (d'.args ++ c1' : Array Value).toList := by simpa using h4.append h3
              obtain ⟨e1, w1, a1, fr2, hs1, m1, m2, m3, m4, m5, st1, sp1⟩ := hbd .deferred ({ fr with defers := ds' } :: cs) hi hg hargs
              obtain ⟨vs, hvs⟩ := Option.isSome_iff_exists.1 hcond.2
              obtain ⟨v, hv, _⟩ := results_run st1 fn hvs
              have hdn : a1.defers = [] := by
                have := st1.fr.defers
                rw [hcond.1] at this
                generalize a1.defers = l at this
                cases this; rfl
              have hgo : fr2.going P w1 (.returned v) := ⟨m1, by rw [m5, hdn], fn, by rw [m2]; exact hfun, by rw [m4]; exact hv⟩
              have h2s := step_going_returned (c := { fr with defers := ds' }) (cs := cs) m3 hgo
              have hset : ({ ({ fr with defers := ds' } : Frame) with mode := settle ({ fr with defers := ds' } : Frame).mode } : Frame) = { fr with defers := ds' } := by
                simp [hm, settle]
              rw [hset] at h2s
              obtain ⟨e2, w2, hs2, hi2, sp2⟩ := leave_ok hb ds h (fr := { fr with defers := ds' }) (cs := cs) st1.inv (hg.step sp1) hm (hrest.mono sp1.agrees sp1.next)
              exact ⟨e2, w2, .head h1s (hs1.trans (.head h2s hs2)), hi2, sp1.trans sp2⟩
            · rw [ht] at h2; cases h2
          · cases h
        · cases h
      · cases h
    · rename_i L ht
      split at h
      · rename_i hL
        split at h
        · rename_i hro
          simp only [Nat.ble_eq] at hro
          rcases hdd with ⟨g', c1, c1', h1, h2, h3, h4⟩ | ⟨L', h1, h2, h3⟩
          · rw [ht] at h1; cases h1
          · rw [ht] at h2
            simp only [Target.collected.injEq] at h2
            subst h2
            have hbk : w.heap[e.loc L]? = some (.deferred (some [])) := hi.obj L _ hL
            have htake : (Instr.takeDeferred (e.loc L)).run P w = .ok [] { w with heap := w.heap.setIfInBounds (e.loc L) (.deferred none) } := by
              simp only [Instr.takeDeferred, Sem.run_bind, getObj_run hbk (by simp), Result.andThen_ok, setObj_run hbk (by simp), Sem.run_pure]
            have hd' : fr.defers = { target := .collected (e.loc L), args := d'.args } :: ds' := by
              rw [hdef]; congr 1; cases d'; simp at h3; subst h3; rfl
            have h1s := step_collected (P := P) (cs := cs) hm hd' htake
            obtain ⟨q1, q2, q3⟩ := heap_set (o' := Obj.deferred none) hbk
            obtain ⟨hi1, sp1⟩ := drop_sound (w' := { w with heap := w.heap.setIfInBounds (e.loc L) (.deferred none) }) hi hL hro q2 q3 rfl rfl rfl
            obtain ⟨e2, w2, hs2, hi2, sp2⟩ := leave_ok hb ds h (fr := { fr with defers := ds' }) (cs := cs) hi1 (hg.step sp1) hm (hrest.mono sp1.agrees sp1.next)
            exact ⟨e2, w2, .head h1s hs2, hi2, sp1.trans sp2⟩
        · cases h
      · cases h
    · cases h
theorem finish_ok {run : FuncId → List Value → AS → Option (Func × Fr × AS)} (hb : BodyOk P run) {f : FuncId} {args : List Value} {A A' : AS} {v : Value}
    (h : finish P run (run f args A) = some (v, A')) {e : Env} {w : World} {args' : Array Value} (hi : Inv e A w) (hg : Glob e A) (ha : VRs e A.next args args'.toList) :
    CallsTo P f args' w fun v' w' => ∃ e', Inv e' A' w' ∧ Step e A w e' A' w' ∧ VR e' A'.next v v' := by
  unfold finish at h
  split at h
  · rename_i fn fr A1 hrun
    split at h
    · rename_i A2 hleave
      split at h
      · rename_i vs hres
        simp only [Option.some.injEq, Prod.mk.injEq] at h
        obtain ⟨rfl, rfl⟩ := h
        intro cs
        obtain ⟨hfun, hbd⟩ := hb hrun
        obtain ⟨e1, w1, a1, fr1, hs1, m1, m2, m3, m4, m5, st1, sp1⟩ := hbd .normal cs hi hg ha
        have hdr : DefsRel e1 A1.next fr.defers fr1.defers := by rw [m5]; exact st1.fr.defers
        obtain ⟨e2, w2, hs2, hi2, sp2⟩ := leave_ok hb fr.defers hleave (fr := fr1) (cs := cs) st1.inv st1.glob m1 hdr
        have st2 : St e2 A2 w2 fr a1 := st1.of_step hi2 sp2
        obtain ⟨v, hv, hrel⟩ := results_run st2 fn hres
        refine ⟨{ fr1 with defers := [] }, w2, v, hs1.trans hs2, m2, ⟨m1, rfl, m3, fn, by rw [m2]; exact hfun, by rw [show ({ fr1 with defers := [] } : Frame).tmps = a1.tmps from m4]; exact hv⟩, e2, hi2, sp1.trans sp2, hrel⟩
      · cases h
    · cases h
  · cases h
theorem round_ok (hc : CallsOk P cc) (hd : DrawOk P draw) (fuel : Nat) {L : Nat} {args : List Value} {A A' : AS} {v : Value} (h : evalRound (evalCode P cc draw fuel) L args A = some (v, A'))
    {e : Env} {w : World} {args' : Array Value} {fn : FuncId} {t : Trie Value} {nt : Nat} {params : Array Tmp} {assign body : Code} {st : LoopState} {pend : Option Code} {dl : Nat} {tmps : Array Value}
    (hi : Inv e A w) (hg : Glob e A) (hL : A.get L = some (.loop fn t nt params assign body st pend dl)) (ht : TmpsRel e A.next t nt tmps) (ha : VRs e A.next args args'.toList) (_hsz : params.size = args.length)
    (c : Frame) (cs : List Frame) :
    ∃ w' v', Steps P (lone (Frame.round (e.loc L) fn ((params.zip args').foldl (fun tmps (t, a) => tmps.setIfInBounds t a) tmps) assign body .normal) (c :: cs) w) (lone (c.finish v') cs w') ∧
      ∃ e', Inv e' A' w' ∧ Step e A w e' A' w' ∧ VR e' A'.next v v' := by
  have hrun := code_does hc hd fuel
  unfold evalRound at h
  rw [hL] at h
  simp only at h
  split at h
  case h_2 => cases h
  rename_i fr1 A1 h1
  split at h
  case h_2 => cases h
  rename_i fn1 t1 nt1 params1 assign1 body1 pending1 dl1 hL1
  split at h
  case isFalse => cases h
  rename_i hro1
  simp only [Nat.ble_eq] at hro1
  split at h
  case h_2 => cases h
  rename_i ex fr2 A2 h2
  split at h
  case h_2 => cases h
  rename_i fn2 t2 nt2 params2 assign2 body2 st2 pending2 dl2 hL2
  split at h
  case isFalse => cases h
  rename_i hro2
  simp only [Nat.ble_eq] at hro2
  simp only [Option.some.injEq, Prod.mk.injEq] at h
  obtain ⟨rfl, rfl⟩ := h
  have hlt := hi.dom L _ hL
  let b : Frame := { (default : Frame) with fn := fn, kind := .normal, roundOf := some (e.loc L) }
  let a0 : Act := { tmps := (params.zip args').foldl (fun tmps (t, a) => tmps.setIfInBounds t a) tmps, defers := [] }
  have hent : Frame.round (e.loc L) fn ((params.zip args').foldl (fun tmps (t, a) => tmps.setIfInBounds t a) tmps) assign body .normal = b.atR a0 [.code assign, .beginRound, .code body] := by
    simp [Frame.round, Frame.atR, b, a0]
  have htm : TmpsRel e A.next (setParams nt t (params.toList.zip args)) nt a0.tmps := by
    have := params_rel (ps := params.toList) ht ha
    have hz : (params.zip args').foldl (fun tmps ((t, a) : Tmp × Value) => tmps.setIfInBounds t a) tmps = (params.toList.zip args'.toList).foldl (fun tmps ((t, a) : Tmp × Value) => tmps.setIfInBounds t a) tmps := by
      rw [← Array.foldl_toList, Array.toList_zip]
    show TmpsRel e A.next _ nt ((params.zip args').foldl _ tmps)
    rw [hz]; exact this
  have hst0 : St e A w { t := setParams nt t (params.toList.zip args), nt := nt, defers := [], fn := fn, inRound := true } a0 := ⟨hi, hg, htm, .nil⟩
  obtain ⟨e1, w1, a1, ho1, st1, sp1, q1, q2, q3⟩ := hrun h1 hst0 (b := b) ⟨rfl, rfl, fun h => by cases h⟩ [.beginRound, .code body] (c :: cs)
  have hloc1 : e1.loc L = e.loc L := (sp1.agrees L hlt).1
  obtain ⟨hdl1, tm1, htm1, hb1⟩ := st1.inv.obj L _ hL1
  rw [hloc1] at hb1
  have hbegin : (Instr.beginRound (e.loc L)).run P w1 = .ok () { w1 with heap := w1.heap.setIfInBounds (e.loc L) (.loop { state := .busy, pending := pending1, fn := fn1, tmps := tm1, params := params1, assign := assign1, body := body1, defers := e1.loc dl1 }) } := by
    simp only [Instr.beginRound, Sem.run_bind, getLoop_run hb1, Result.andThen_ok, setObj_run hb1 (by simp), Sem.run_pure]
  have hp1 := putObj_sound st1.inv hL1 hro1 (by rw [hloc1]; exact hb1) (oa' := .loop fn1 t1 nt1 params1 assign1 body1 .busy pending1 dl1)
    (o' := .loop { state := .busy, pending := pending1, fn := fn1, tmps := tm1, params := params1, assign := assign1, body := body1, defers := e1.loc dl1 })
    ⟨hdl1, tm1, htm1, (heap_set (by rw [hloc1]; exact hb1)).1⟩
  rw [hloc1] at hp1
  have st1' := st1.of_step hp1.1 hp1.2
  obtain ⟨e2, w2, a2, ho2, st2', sp2, _⟩ := hrun h2 st1' (b := b) ⟨by rw [q1], rfl, fun h => by rw [q2] at h; cases h⟩ [] (c :: cs)
  have sp12 := (sp1.trans hp1.2).trans sp2
  have hloc2 : e2.loc L = e.loc L := (sp12.agrees L hlt).1
  obtain ⟨hdl2, tm2, htm2, hb2⟩ := st2'.inv.obj L _ hL2
  rw [hloc2] at hb2
  have hendr : ∀ j : Option Code, (Instr.endRound (e.loc L) j).run P w2 = .ok (.bool j.isNone) { w2 with heap := w2.heap.setIfInBounds (e.loc L) (.loop { state := if j.isNone then .ready else .done, pending := j, fn := fn2, tmps := tm2, params := params2, assign := assign2, body := body2, defers := e2.loc dl2 }) } := by
    intro j
    simp only [Instr.endRound, Sem.run_bind, getLoop_run hb2, Result.andThen_ok, setObj_run hb2 (by simp), Sem.run_pure]
  have hp2 := putObj_sound st2'.inv hL2 hro2 (by rw [hloc2]; exact hb2) (oa' := .loop fn2 t2 nt2 params2 assign2 body2 (if (jumpOf ex).isNone then .ready else .done) (jumpOf ex) dl2)
    (o' := .loop { state := if (jumpOf ex).isNone then .ready else .done, pending := jumpOf ex, fn := fn2, tmps := tm2, params := params2, assign := assign2, body := body2, defers := e2.loc dl2 })
    ⟨hdl2, tm2, htm2, (heap_set (by rw [hloc2]; exact hb2)).1⟩
  rw [hloc2] at hp2
  have hstart : Steps P (lone (Frame.round (e.loc L) fn ((params.zip args').foldl (fun tmps (t, a) => tmps.setIfInBounds t a) tmps) assign body .normal) (c :: cs) w)
      (lone (b.atR a1 [.code body]) (c :: cs) { w1 with heap := w1.heap.setIfInBounds (e.loc L) (.loop { state := .busy, pending := pending1, fn := fn1, tmps := tm1, params := params1, assign := assign1, body := body1, defers := e1.loc dl1 }) }) := by
    rw [hent]
    exact Steps.trans ho1 (.one (stepR_beginRound rfl hbegin))
  refine ⟨_, .bool (jumpOf ex).isNone, ?_, e2, hp2.1, sp12.trans hp2.2, .flat rfl⟩
  cases ex with
  | normal => exact hstart.trans (Steps.trans ho2 (.one (stepR_round_end rfl rfl (hendr none))))
  | exit id =>
    obtain ⟨k', hs, hx⟩ := ho2
    exact hstart.trans (hs.trans (.one (stepR_round_exit rfl rfl (by rw [hx]; rfl) (hendr _))))
  | goto l =>
    obtain ⟨k', hs, hx⟩ := ho2
    exact hstart.trans (hs.trans (.one (stepR_round_goto rfl rfl (by rw [hx]; rfl) (hendr _))))
  | ret =>
    obtain ⟨k', hs⟩ := ho2
    exact hstart.trans (hs.trans (.one (stepR_round_ret rfl rfl (hendr _))))
def PrimOk (P : Program) (prim : FuncId → Option (List Value → AS → Option (Value × AS))) : Prop :=
  ∀ ⦃f : FuncId⦄ ⦃p : List Value → AS → Option (Value × AS)⦄, prim f = some p → ∀ ⦃args : List Value⦄ ⦃A A' : AS⦄ ⦃v : Value⦄, p args A = some (v, A') →
    ∀ ⦃e : Env⦄ ⦃w : World⦄ ⦃args' : Array Value⦄, Inv e A w → Glob e A → VRs e A.next args args'.toList →
      CallsTo P f args' w fun v' w' => ∃ e', Inv e' A' w' ∧ Step e A w e' A' w' ∧ VR e' A'.next v v'
theorem calls_ok {prim : FuncId → Option (List Value → AS → Option (Value × AS))} {draw : DrawF} (hp : PrimOk P prim) (hd : ∀ cc, CallsOk P cc → DrawOk P (draw cc)) (fuel : Nat) :
    ∀ n, CallsOk P (calls P prim draw fuel n)
  | 0 => ⟨fun h => by simp [calls] at h, fun h => by simp [calls] at h⟩
  | n + 1 => by
    have ih := calls_ok hp hd fuel n
    have hdr := hd _ ih
    refine ⟨fun {f args A A' v} h _ {e w args'} hi hg ha => ?_, fun {L args A A' v} h {e w args' fn t nt params assign body st pend dl tmps} hi hg hL ht ha hsz c cs => ?_⟩
    · simp only [calls] at h
      split at h
      · rename_i p hpf
        exact hp hpf h hi hg ha
      · exact finish_ok (body_ok ih hdr fuel) h hi hg ha
    · simp only [calls] at h
      exact round_ok ih hdr fuel h hi hg hL ht ha hsz c cs
end Go.Dp
namespace Go.Dp
open Go
variable {P : Program} {e : Env} {A : AS} {w : World}
theorem eqOpt_eq {a b : Option Addr} (h : eqOpt a b = true) : a = b := by
  cases a with
  | none => cases b with
    | none => rfl
    | some y => simp [eqOpt] at h
  | some x => cases b with
    | none => simp [eqOpt] at h
    | some y =>
      obtain ⟨x1, x2, x3⟩ := x
      obtain ⟨y1, y2, y3⟩ := y
      simp only [eqOpt, Bool.and_eq_true, Nat.beq_eq] at h
      obtain ⟨⟨rfl, rfl⟩, h3⟩ := h
      cases x3 with
      | none => cases y3 with
        | none => rfl
        | some j => simp at h3
      | some i => cases y3 with
        | none => simp at h3
        | some j => simp at h3; subst h3; rfl
theorem eqFn_eq {a b : Fn} (h : eqFn a b = true) : a = b := by
  cases a <;> cases b <;> simp_all [eqFn]
theorem eqVs_eq {f : Value → Value → Bool} (ih : ∀ a b, f a b = true → a = b) : ∀ xs ys, eqVs f xs ys = true → xs = ys
  | [], [], _ => rfl
  | [], _ :: _, h => by simp [eqVs] at h
  | _ :: _, [], h => by simp [eqVs] at h
  | x :: xs, y :: ys, h => by
    simp only [eqVs, Bool.and_eq_true] at h
    rw [ih _ _ h.1, eqVs_eq ih _ _ h.2]
theorem eqV_eq : ∀ n a b, eqV n a b = true → a = b
  | 0, a, b, h => by simp [eqV] at h
  | n + 1, a, b, h => by
    have ih := eqVs_eq (eqV_eq n)
    unfold eqV at h
    split at h
    · simp at h; rw [h]
    · simp at h; rw [h.1, h.2]
    · simp at h; rw [h.1, h.2]
    · simp at h; rw [h.1.1, h.1.2, h.2]
    · rename_i x y
      simp only [decide_eq_true_eq] at h
      obtain ⟨⟨x⟩⟩ := x
      obtain ⟨⟨y⟩⟩ := y
      simp at h; rw [h]
    · rw [eqOpt_eq h]
    · simp only [Bool.and_eq_true, Nat.beq_eq] at h
      rw [eqOpt_eq h.1.1, h.1.2, h.2]
    · rfl
    · simp only [Nat.beq_eq] at h; rw [h]
    · rfl
    · rfl
    · rename_i f x u g y v
      simp only [Bool.and_eq_true] at h
      have h1 := ih _ _ h.1.2
      have h2 := ih _ _ h.2
      rw [eqFn_eq h.1.1, Array.ext' h1, Array.ext' h2]
    · rw [Array.ext' (ih _ _ h)]
    · rw [Array.ext' (ih _ _ h)]
    · cases h
theorem unders_lower {f : Value → Bool} {n N : Nat} (ih : ∀ v v', f v = true → VR e N v v' → VR e n v v') : ∀ {xs ys : List Value}, unders f xs = true → VRs e N xs ys → VRs e n xs ys
  | _, _, _, .nil => .nil
  | _, _, h, .cons a t => by
    simp only [unders, Bool.and_eq_true] at h
    exact .cons (ih _ _ h.1 a) (unders_lower ih h.2 t)
theorem under_lower {n N : Nat} : ∀ (d : Nat) (v v' : Value), under d n v = true → VR e N v v' → VR e n v v'
  | 0, _, _, h, _ => by simp [under] at h
  | d + 1, v, v', h, hv => by
    have ih := fun {xs ys} => unders_lower (e := e) (under_lower (n := n) (N := N) d) (xs := xs) (ys := ys)
    unfold under at h
    cases hv with
    | flat h => exact .flat h
    | ptr _ => simp [scAddr] at h; exact .ptr h
    | slice _ => simp [scAddr] at h; exact .slice h
    | void _ => simp [scAddr] at h; exact .void h
    | pend _ he => simp [scAddr] at h; exact .pend h he
    | pended _ he => simp [scAddr] at h; exact .pended h he
    | map _ => simp at h; exact .map h
    | agg hx => exact .agg (ih h hx)
    | tuple hx => exact .tuple (ih h hx)
    | func hx hy =>
      simp only [Bool.and_eq_true] at h
      exact .func (ih h.1 hx) (ih h.2 hy)
    | yield _ => simp at h; exact .yield h
theorem opsUnder_spec {fr : Fr} {o : Oper} {n : Nat} (h : opsUnder fr o n = true) (x : Operand) (hx : x ∈ o.op.operands) : under 4 n (ev fr x) = true := by
  simp only [opsUnder, List.all_eq_true] at h
  exact h x (by simpa using hx)
theorem exec_sound' {ρ ρ' : Operand → Value} {o : Oper} {nx : ANext} {A' : AS} (hi : Inv e A w) (hr : ∀ x ∈ o.op.operands, VR e A.next (ρ x) (ρ' x))
    (h : aExec P ρ o A = some (nx, A')) : NRel P e A w (execOp ρ' o) nx A' := by
  classical
  let ρ1 : Operand → Value := fun x => if x ∈ o.op.operands then ρ x else .nilIface
  let ρ2 : Operand → Value := fun x => if x ∈ o.op.operands then ρ' x else .nilIface
  have hr' : ∀ x, VR e A.next (ρ1 x) (ρ2 x) := by
    intro x
    simp only [ρ1, ρ2]
    split
    · rename_i hx; exact hr x hx
    · exact .flat rfl
  have hsel : ∀ cs b, o.op ≠ .select cs b := by
    intro cs b hs
    simp [aExec, plainOp, aSpecial, hs] at h
  have e1 : execOp ρ' o = execOp ρ2 o := execOp_congr o hsel (fun x hx => by simp [ρ2, hx])
  have e2 : ∀ x ∈ o.op.operands, ρ x = ρ1 x := fun x hx => by simp [ρ1, hx]
  rw [e1]
  unfold aExec at h
  split at h
  · rename_i hp
    unfold aFlat at h
    split at h
    · rename_i v hpure
      split at h
      · rename_i hvf
        simp only [Option.map_some, Option.some.injEq, Prod.mk.injEq] at h
        obtain ⟨rfl, rfl⟩ := h
        have hflat : ∀ x ∈ o.op.operands, flat (ρ x) = true := by
          unfold plainOp at hp
          intro x hx
          split at hp
          all_goals first
            | (rw [Array.all_eq_true_iff_forall_mem] at hp; exact hp x hx)
            | (cases hp; done)
            | skip
          rename_i c hc
          split at hp
          · rename_i b hb
            simp only [Bool.and_eq_true] at hp
            rw [hc] at hx
            simp only [Op.operands, Call.operands, hb, Array.empty_append] at hx
            have hp2 := hp.2
            rw [Array.all_eq_true_iff_forall_mem] at hp2
            exact hp2 x hx
          · cases hp
        have hsame : ∀ x ∈ o.op.operands, ρ2 x = ρ x := by
          intro x hx
          have := hr x hx
          simp only [ρ2, hx, if_true]
          exact VR.of_flat (hflat x hx) this
        rw [execOp_congr o hsel hsame]
        exact ⟨e, w, v, pureRun_sound P _ _ hpure w, hi, Step.refl e _ w, .flat hvf⟩
      · cases h
    · cases h
  · have hcong : aSpecial P ρ o A = aSpecial P ρ1 o A := aSpecial_congr o e2
    rw [hcong] at h
    exact special_sound hi hr' h
end Go.Dp
namespace Go.Dp
open Go
variable {P : Program} {A : AS} {ρ : Operand → Value} {o : Oper}
theorem exec_flat {nx : ANext} {A' : AS} (hp : plainOp ρ o = true) (h : aExec P ρ o A = some (nx, A')) : A' = A ∧ (∃ v, nx = .value v) ∧ ∀ A2, aExec P ρ o A2 = some (nx, A2) := by
  simp only [aExec, hp, if_true] at h ⊢
  cases hf : aFlat P ρ o with
  | none => simp [hf] at h
  | some v =>
    simp only [hf, Option.map_some, Option.some.injEq, Prod.mk.injEq] at h ⊢
    obtain ⟨rfl, rfl⟩ := h
    exact ⟨rfl, ⟨v, rfl⟩, fun A2 => by simp⟩
theorem map_any {r : Option Value} {nx : ANext} {A' : AS} (h : (r.map fun x => (ANext.value x, A)) = some (nx, A')) : A' = A ∧ (∃ v, nx = .value v) ∧ ∀ A2 : AS, (r.map fun x => (ANext.value x, A2)) = some (nx, A2) := by
  cases r with
  | none => cases h
  | some v =>
    simp only [Option.map_some, Option.some.injEq, Prod.mk.injEq] at h ⊢
    obtain ⟨rfl, rfl⟩ := h
    exact ⟨rfl, ⟨v, rfl⟩, fun A2 => by simp⟩
theorem exec_pure {nx : ANext} {A' : AS} (hc : cls P o.op = .pure) (h : aExec P ρ o A = some (nx, A')) : A' = A ∧ (∃ v, nx = .value v) ∧ ∀ A2, aExec P ρ o A2 = some (nx, A2) := by
  cases hp : plainOp ρ o with
  | true => exact exec_flat hp h
  | false =>
    simp only [aExec, hp, Bool.false_eq_true, if_false, aSpecial] at h ⊢
    cases hop : o.op with
    | move x => simp only [hop] at h ⊢; exact map_any (r := some (ρ x)) h
    | assign x => simp only [hop] at h ⊢; exact map_any (r := some (ρ x)) h
    | pick c a b =>
      simp only [hop] at h ⊢
      cases hcv : ρ c with
      | bool t => simp only [hcv] at h ⊢; exact map_any (r := some (if t then ρ a else ρ b)) h
      | _ => simp [hcv] at h
    | convert s d x =>
      simp only [hop, cls] at hc
      split at hc
      · rename_i hcv
        simp only [hop, aConvert, plainConv] at h hcv
        revert hcv h
        cases P.underlying s with
        | none => simp
        | some t =>
          cases P.underlying d with
          | none => cases t <;> simp
          | some u => cases t <;> cases u <;> simp
      · cases hc
    | makeFunc fn first captured =>
      simp only [hop] at h ⊢
      cases fn with
      | func f => exact map_any h
      | _ => cases h
    | binOp op t x y yt =>
      simp only [hop] at h ⊢
      cases op <;> first | exact map_any h | cases h
    | call c =>
      simp only [hop, cls] at hc
      cases hcal : c.callee with
      | value f => simp [hcal] at hc
      | invoke r m => simp [hcal] at hc
      | builtin b =>
        simp only [hop, hcal, aBuiltin] at h
        cases b <;> simp [hcal] at hc <;> cases h
    | _ => first
      | (simp [hop, cls] at hc; done)
      | (simp only [hop] at h ⊢; exact map_any h)
      | (simp only [hop] at h; cases h)
theorem exec_read {nx : ANext} {A' : AS} (hc : cls P o.op = .read) (h : aExec P ρ o A = some (nx, A')) : A' = A ∧ ∃ v, nx = .value v := by
  cases hp : plainOp ρ o with
  | true => exact ⟨(exec_flat hp h).1, (exec_flat hp h).2.1⟩
  | false =>
    simp only [aExec, hp, Bool.false_eq_true, if_false, aSpecial] at h
    have key : ∀ {r : Option Value}, (r.map fun x => (ANext.value x, A)) = some (nx, A') → A' = A ∧ ∃ v, nx = .value v := fun h => ⟨(map_any h).1, (map_any h).2.1⟩
    cases hop : o.op with
    | call c =>
      simp only [hop, cls] at hc
      cases hcal : c.callee with
      | value f => simp [hcal] at hc
      | invoke r m => simp [hcal] at hc
      | builtin b =>
        simp only [hop, hcal, aBuiltin] at h
        cases b <;> simp [hcal] at hc
        all_goals
          split at h <;> first
            | (cases h; done)
            | (simp only [Option.map_map] at h
               exact key h)
            | (rename_i hb _; cases hb)
            | skip
    | convert s d x =>
      simp only [hop, cls] at hc
      split at hc <;> cases hc
    | _ => first
      | (simp [hop, cls] at hc; done)
      | (simp only [hop] at h; exact key h)
inductive Fresh (n : Nat) : Value → AObj → Prop where
  | ptr {cs : List Value} {z : Nat} : Fresh n (.pointer (some ⟨n, 0, none⟩)) (.cells cs z false)
  | slice {cs : List Value} {z l c : Nat} : Fresh n (.slice (some ⟨n, 0, none⟩) l c) (.cells cs z false)
  | map : Fresh n (.map (some n)) (.map [] 0)
theorem exec_alloc {nx : ANext} {A' : AS} (hc : cls P o.op = .alloc) (h : aExec P ρ o A = some (nx, A')) :
    ∃ v obj, nx = .value v ∧ A' = A.new obj ∧ Fresh A.next v obj ∧ ∀ A2, A2.next = A.next → aExec P ρ o A2 = some (.value v, A2.new obj) := by
  cases hp : plainOp ρ o with
  | true =>
    exfalso
    unfold plainOp at hp
    cases hop : o.op with
    | call c =>
      simp only [hop, cls] at hc
      cases hcal : c.callee with
      | builtin b => simp only [hcal] at hc; split at hc <;> cases hc
      | _ => simp [hcal] at hc
    | convert s d x =>
      simp only [hop, cls] at hc
      split at hc <;> cases hc
    | _ => first
      | (simp [hop] at hp; done)
      | (simp [hop, cls] at hc; done)
  | false =>
    simp only [aExec, hp, Bool.false_eq_true, if_false, aSpecial] at h ⊢
    cases hop : o.op with
    | alloc t =>
      simp only [hop] at h ⊢
      cases hz : tZero P t with
      | none => simp [hz] at h
      | some z =>
        simp only [hz] at h ⊢
        split at h
        · rename_i hf
          simp only [aNew, Option.map_some, Option.some.injEq, Prod.mk.injEq] at h
          obtain ⟨rfl, rfl⟩ := h
          exact ⟨_, _, rfl, rfl, .ptr, fun A2 h2 => by simp [hf, aNew, h2]⟩
        · cases h
    | box t x =>
      simp only [hop, aNew, Option.map_some, Option.some.injEq, Prod.mk.injEq] at h ⊢
      obtain ⟨rfl, rfl⟩ := h
      exact ⟨_, _, rfl, rfl, .ptr, fun A2 h2 => by simp [h2]⟩
    | buildSlice t len parts =>
      simp only [hop, aBuildSlice] at h ⊢
      revert h
      cases P.underlying t with
      | none => simp
      | some d => cases d with
        | slice el =>
          simp only
          cases P.info? el with
          | none => simp
          | some i =>
            simp only
            cases i.zero with
            | none => simp
            | some z =>
              simp only
              split
              · rename_i hf
                split
                · rename_i cells hfill
                  intro h
                  simp only [Option.map_some, Option.some.injEq, Prod.mk.injEq] at h
                  obtain ⟨rfl, rfl⟩ := h
                  exact ⟨_, _, rfl, rfl, .slice, fun A2 h2 => by simp [h2]⟩
                · intro h; cases h
              · intro h; cases h
        | _ => simp
    | makeMap t r =>
      simp only [hop] at h ⊢
      cases r with
      | none =>
        simp only [Option.map_some, Option.some.injEq, Prod.mk.injEq] at h ⊢
        obtain ⟨rfl, rfl⟩ := h
        exact ⟨_, _, rfl, rfl, .map, fun A2 h2 => by simp [h2]⟩
      | some x =>
        simp only at h ⊢
        split at h
        · simp only [Option.map_some, Option.some.injEq, Prod.mk.injEq] at h ⊢
          obtain ⟨rfl, rfl⟩ := h
          exact ⟨_, _, rfl, rfl, .map, fun A2 h2 => by simp [h2]⟩
        · cases h
    | makeSlice t l c =>
      simp only [hop, aMakeSlice] at h ⊢
      revert h
      split
      · rename_i el _ l' _ c' _ _ _
        cases P.info? el with
        | none => simp
        | some i =>
          simp only
          cases i.zero with
          | none => simp
          | some z =>
            simp only
            split
            · rename_i hf
              intro h
              simp only [Option.map_some, Option.some.injEq, Prod.mk.injEq] at h
              obtain ⟨rfl, rfl⟩ := h
              exact ⟨_, _, rfl, rfl, .slice, fun A2 h2 => by simp [h2]⟩
            · intro h; cases h
      · simp
    | call c =>
      simp only [hop, cls] at hc
      cases hcal : c.callee with
      | builtin b => simp only [hcal] at hc; split at hc <;> cases hc
      | _ => simp [hcal] at hc
    | convert s d x =>
      simp only [hop, cls] at hc
      split at hc <;> cases hc
    | _ => simp [hop, cls] at hc
end Go.Dp
namespace Go.Dp
open Go
variable {P : Program} {ops : Array Oper}
def Met (ops : Array Oper) (D : Nat → Prop) (i : Nat) : Prop := ∀ o, ops[i]? = some o → ∀ e ∈ o.after, Region.binds .any e = true → D e.on
inductive Sched (ops : Array Oper) : (Nat → Prop) → List Nat → Prop where
  | done {D : Nat → Prop} (h : ∀ i, i < ops.size → D i) : Sched ops D []
  | step {D : Nat → Prop} {i : Nat} {l : List Nat} (hi : i < ops.size) (hn : ¬ D i) (hm : Met ops D i) (ht : Sched ops (fun j => D j ∨ j = i) l) : Sched ops D (i :: l)
theorem Sched.congr {D D' : Nat → Prop} {l : List Nat} (h : Sched ops D l) (he : ∀ i, D i ↔ D' i) : Sched ops D' l := by
  have : D = D' := funext fun i => propext (he i)
  rw [← this]; exact h
def left (ops : Array Oper) (listed : Array Bool) : List Nat := (List.range ops.size).filter fun i => !(listed.getD i true)
theorem left_lt {listed : Array Bool} {i : Nat} (hi : i < ops.size) (hn : listed.getD i true = false) : (left ops (listed.setIfInBounds i true)).length < (left ops listed).length := by
  have hsub : left ops (listed.setIfInBounds i true) = (left ops listed).filter fun j => !((listed.setIfInBounds i true).getD j true) := by
    unfold left
    rw [List.filter_filter]
    apply List.filter_congr
    intro j _
    by_cases hij : i = j
    · subst hij
      have hlt : i < listed.size := by
        rcases Nat.lt_or_ge i listed.size with h' | h'
        · exact h'
        · simp [Array.getElem?_eq_none h'] at hn
      simp [hlt]
    · rw [getD_set_ne true hij]; simp
  rw [hsub]
  refine List.length_filter_lt_length_iff_exists.2 ⟨i, ?_, ?_⟩
  · unfold left; simp only [List.mem_filter, List.mem_range]; exact ⟨hi, by simp only [hn, Bool.not_false]⟩
  · have hlt : i < listed.size := by
      rcases Nat.lt_or_ge i listed.size with h' | h'
      · exact h'
      · simp [Array.getElem?_eq_none h'] at hn
    simp [hlt]
theorem go_sched (hac : ∀ (i : Nat) (o : Oper), ops[i]? = some o → ∀ e ∈ o.after, Region.binds .any e = true → e.on < i) :
    ∀ (fuel t : Nat) (listed : Array Bool), listed.size = ops.size → (left ops listed).length ≤ fuel →
      Sched ops (fun i => listed.getD i false = true) (Region.linearise.go .any ops fuel t listed []) := by
  intro fuel
  induction fuel with
  | zero =>
    intro t listed hs hl
    have hnil : left ops listed = [] := List.length_eq_zero_iff.1 (Nat.le_zero.1 hl)
    simp only [Region.linearise.go, List.reverse_nil]
    refine .done fun i hi => ?_
    by_cases hq : listed.getD i true = false
    · have : i ∈ left ops listed := by simp only [left, List.mem_filter, List.mem_range]; exact ⟨hi, by simp only [hq, Bool.not_false]⟩
      rw [hnil] at this; cases this
    · simp only [Bool.not_eq_false] at hq
      have hlt : i < listed.size := hs ▸ hi
      simpa [hlt] using hq
  | succ fuel ih =>
    intro t listed hs hl
    unfold Region.linearise.go
    have hready : ((List.range ops.size).filter fun i => !listed.getD i true && ((ops[i]?).map (·.after.all fun e => !Region.binds .any e || listed.getD e.on false)).getD false) = Region.ready .any ops listed := rfl
    simp only []
    rw [hready]
    split
    · rename_i i hi
      have hmem := List.mem_of_getElem? hi
      obtain ⟨h0, o, ho, hall⟩ := mem_ready.1 hmem
      have hlt : i < ops.size := (Array.getElem?_eq_some_iff.1 ho).1
      rw [linearise_go_acc]
      refine .step hlt ?_ ?_ ?_
      · have hlt' : i < listed.size := hs ▸ hlt
        simp only [hlt', Array.getD_eq_getD_getElem?, Array.getElem?_eq_getElem, Option.getD_some] at h0 ⊢
        simp [h0]
      · intro o' ho'
        rw [ho] at ho'
        cases ho'
        exact hall
      · refine (ih _ _ (by simpa using hs) (by have := left_lt hlt h0; omega)).congr fun j => ?_
        by_cases hij : i = j
        · subst hij
          have hlt' : i < listed.size := hs ▸ hlt
          simp [hlt']
        · rw [getD_set_ne false hij]
          constructor
          · exact .inl
          · rintro (h | h)
            · exact h
            · exact absurd h.symm hij
    · rename_i hnone
      simp only [List.reverse_nil]
      have hnil : Region.ready .any ops listed = [] := by
        cases hr : Region.ready .any ops listed with
        | nil => rfl
        | cons x xs =>
          rw [hr] at hnone
          have hlt : t % (x :: xs).length < (x :: xs).length := Nat.mod_lt _ (by simp)
          rw [List.getElem?_eq_getElem hlt] at hnone
          cases hnone
      refine .done fun i => ?_
      induction i using Nat.strongRecOn with
      | ind i ih' =>
        intro hi
        by_cases hq : listed.getD i true = false
        · have ho : ops[i]? = some ops[i] := by simp [hi]
          have : i ∈ Region.ready .any ops listed := by
            refine mem_ready.2 ⟨hq, _, ho, fun e he hb => ?_⟩
            have hlt := hac i _ ho e he hb
            exact ih' e.on hlt (by omega)
          rw [hnil] at this; cases this
        · simp only [Bool.not_eq_false] at hq
          have hlt : i < listed.size := hs ▸ hi
          simpa [hlt] using hq
theorem linearise_sched (hac : ∀ (i : Nat) (o : Oper), ops[i]? = some o → ∀ e ∈ o.after, Region.binds .any e = true → e.on < i) (t : Nat) :
    Sched ops (fun _ => False) (Region.linearise .any ops t) := by
  unfold Region.linearise
  refine (go_sched hac _ _ _ (by simp) ?_).congr fun i => ?_
  · unfold left
    exact Nat.le_trans (List.length_filter_le _ _) (by simp)
  · constructor
    · intro h
      rcases Nat.lt_or_ge i ops.size with hh | hh
      · simp [hh] at h
      · simp [hh] at h
    · exact False.elim
inductive Reach (L : List Oper) : Nat → Nat → Prop where
  | near {i : Nat} {o : Oper} {e : Edge} (ho : L[i]? = some o) (he : e ∈ o.after) (hb : Region.binds .any e = true) : Reach L i e.on
  | far {i j : Nat} {o : Oper} {e : Edge} (ho : L[i]? = some o) (he : e ∈ o.after) (hb : Region.binds .any e = true) (ht : Reach L e.on j) : Reach L i j
theorem after_fold (acc : Array Nat) (j : Nat) : ∀ (es : List Edge) (s : Nat), ((es.foldl (fun s e => if Region.binds .any e then s ||| 2 ^ e.on ||| acc.getD e.on 0 else s) s).testBit j = true) →
    s.testBit j = true ∨ ∃ e ∈ es, Region.binds .any e = true ∧ (e.on = j ∨ (acc.getD e.on 0).testBit j = true)
  | [], s, h => .inl h
  | e :: es, s, h => by
    rw [List.foldl_cons] at h
    rcases after_fold acc j es _ h with h1 | ⟨e', he, hb, hh⟩
    · split at h1
      · rename_i hb
        rw [Nat.testBit_or, Nat.testBit_or, Nat.testBit_two_pow] at h1
        simp only [Bool.or_eq_true, decide_eq_true_eq] at h1
        rcases h1 with (h1 | h1) | h1
        · exact .inl h1
        · exact .inr ⟨e, by simp, hb, .inl h1⟩
        · exact .inr ⟨e, by simp, hb, .inr h1⟩
      · exact .inl h1
    · exact .inr ⟨e', by simp [he], hb, hh⟩
theorem before_fold (L : List Oper) : ∀ (l pre : List Oper) (acc : Array Nat), L = pre ++ l → acc.size = pre.length → (∀ i j, (acc.getD i 0).testBit j = true → Reach L i j) →
    ∀ i j, ((l.foldl (fun acc (o : Oper) => acc.push (o.after.foldl (fun s e => if Region.binds .any e then s ||| 2 ^ e.on ||| acc.getD e.on 0 else s) 0)) acc).getD i 0).testBit j = true → Reach L i j
  | [], pre, acc, _, _, h, i, j => h i j
  | o :: l, pre, acc, hL, hs, h, i, j => by
    rw [List.foldl_cons]
    refine before_fold L l (pre ++ [o]) _ (by simp [hL]) (by simp [hs]) ?_ i j
    intro i j hb
    by_cases hi : i = acc.size
    · subst hi
      simp only [Array.getD_eq_getD_getElem?, Array.getElem?_push_size, Option.getD_some] at hb
      rw [← Array.foldl_toList] at hb
      have ho : L[acc.size]? = some o := by rw [hL, hs]; simp
      rcases after_fold acc j _ _ (by simpa only [Array.getD_eq_getD_getElem?] using hb) with h1 | ⟨e, he, hbe, h1 | h1⟩
      · simp at h1
      · subst h1; exact .near ho (by simpa using he) hbe
      · exact .far ho (by simpa using he) hbe (h _ _ h1)
    · refine h i j ?_
      simpa [Array.getElem?_push, hi] using hb
theorem bef_reach {i j : Nat} (h : bef (Region.before ops) i j = true) : Reach ops.toList i j := by
  unfold bef Region.before at h
  rw [← Array.foldl_toList] at h
  exact before_fold ops.toList ops.toList [] #[] rfl rfl (fun i j hb => by simp at hb) i j h
def Closed (ops : Array Oper) (D : Nat → Prop) : Prop := ∀ i, D i → Met ops D i
theorem Closed.reach {D : Nat → Prop} (h : Closed ops D) {i j : Nat} (hr : Reach ops.toList i j) : Met ops D i → D j := by
  induction hr with
  | near ho he hb => exact fun hm => hm _ (by simpa using ho) _ he hb
  | far ho he hb _ ih => exact fun hm => ih (h _ (hm _ (by simpa using ho) _ he hb))
theorem Closed.bef {D : Nat → Prop} (h : Closed ops D) {i j : Nat} (hb : Dp.bef (Region.before ops) i j = true) (hm : Met ops D i) : D j := h.reach (bef_reach hb) hm
theorem Closed.add {D : Nat → Prop} (h : Closed ops D) {i : Nat} (hm : Met ops D i) : Closed ops (fun j => D j ∨ j = i) := by
  rintro j (hj | rfl) o ho e he hb
  · exact .inl (h j hj o ho e he hb)
  · exact .inl (hm o ho e he hb)
end Go.Dp
namespace Go.Dp
open Go
variable {P : Program} {e : Env} {A : AS} {w : World} {cc : Calls2} {ops : Array Oper}
theorem yielded_at {n j : Nat} {fr : Fr} {a : Act} (h1 : a.tmps.size = fr.nt) (h3 : ∀ k, fr.nt ≤ k → fr.t.get k = none)
    (h2 : ∀ q d, ops[j]? = some q → q.dst = some d → VR e n ((fr.t.get d).getD undef) (a.tmps.getD d undef)) : yielded ops a.tmps j = yieldedA ops fr j := by
  simp only [yielded, yieldedA]
  cases hq : ops[j]? with
  | none => rfl
  | some o =>
    simp only [Option.bind_some]
    cases hd : o.dst with
    | none => rfl
    | some d =>
      simp only [Option.bind_some]
      have hv := h2 o d hq hd
      cases hk : fr.t.get d with
      | none =>
        rw [hk] at hv
        simp only [Option.getD_none] at hv
        cases hq : a.tmps[d]? with
        | none => rfl
        | some v =>
          have : a.tmps.getD d undef = v := by simp [Array.getD_eq_getD_getElem?, hq]
          rw [this] at hv
          cases v with
          | bool b => have := bool_back hv; simp [undef] at this
          | _ => rfl
      | some u =>
        rw [hk] at hv
        simp only [Option.getD_some] at hv
        have hlt : d < a.tmps.size := by
          rcases Nat.lt_or_ge d a.tmps.size with hh | hh
          · exact hh
          · rw [h3 d (by omega)] at hk; cases hk
        have hq : a.tmps[d]? = some (a.tmps[d]) := by simp [hlt]
        have : a.tmps.getD d undef = a.tmps[d] := by simp [Array.getD_eq_getD_getElem?, hlt]
        rw [this] at hv
        rw [hq]
        generalize a.tmps[d] = v at hv
        cases u with
        | bool b => rw [bool_of hv]
        | _ =>
          cases v with
          | bool b => have := bool_back hv; cases this
          | _ => rfl
theorem wanted_same {n : Nat} {fr : Fr} {a : Act} {o : Oper} (h1 : a.tmps.size = fr.nt) (h3 : ∀ k, fr.nt ≤ k → fr.t.get k = none)
    (h2 : ∀ t ∈ looksAt ops o, VR e n ((fr.t.get t).getD undef) (a.tmps.getD t undef)) : Region.wanted o (yielded ops a.tmps) = Region.wanted o (yieldedA ops fr) := by
  unfold Region.wanted
  cases hg : o.guard with
  | none => rfl
  | some gw =>
    obtain ⟨g, want⟩ := gw
    simp only
    rw [yielded_at h1 h3 fun q d hq hd => h2 d (by simp [looksAt, hg, hq, hd])]
theorem eff_steps (hc : CallsOk P cc) {fr fr' : Fr} {a : Act} {i : Nat} {rest : List Nat} {o : Oper} {A' : AS} {b : Frame}
    (hi : Inv e A w) (hg : Glob e A) (hops : ∀ x ∈ o.op.operands, VR e A.next (ev fr x) (a.eval x)) (hwant : Region.wanted o (yieldedA ops fr) = true)
    (hw : Region.wanted o (yielded ops a.tmps) = true) (hdef : DefsRel e A.next fr.defers a.defers) (hf : Fits fr b) (ho : ops[i]? = some o)
    (h : evalOp P cc ops o fr A = some (fr', A')) (k : List Item) (cs : List Frame) :
    ∃ e' w' v v' ds ds', Steps P (lone (b.atR a (.inRegion ops (i :: rest) :: k)) cs w) (lone (b.atR (({ a with defers := ds' } : Act).put o.dst v') (.inRegion ops rest :: k)) cs w') ∧
      Inv e' A' w' ∧ Step e A w e' A' w' ∧ VR e' A'.next v v' ∧ ({ fr with defers := ds } : Fr).put o.dst v = some fr' ∧ DefsRel e' A'.next ds ds' := by
  have hfin : ∀ v, (b.atR a (.inRegion ops (i :: rest) :: k)).finish v = b.atR (a.put o.dst v) (.inRegion ops rest :: k) := fun v => by rw [Frame.finish_atR, ho]; rfl
  unfold evalOp at h
  simp only [hwant, if_true] at h
  split at h
  · rename_i hok
    have hex := fun {nx : ANext} {A' : AS} (hh : aExec P (ev fr) o A = some (nx, A')) => exec_sound' (P := P) (ρ' := a.eval) hi hops hh
    split at h
    · rename_i v A1 hx
      split at h
      · rename_i fr1 hp
        simp only [Option.some.injEq, Prod.mk.injEq] at h
        obtain ⟨rfl, rfl⟩ := h
        obtain ⟨e', w', v', hrun, hi', hs, hv⟩ := hex hx
        exact ⟨e', w', v, v', fr.defers, a.defers, .one (apply_value ho hw (op_notdefer hx (by simp)) hrun), hi', hs, hv, hp, hdef.mono hs.agrees hs.next⟩
      · cases h
    · rename_i A1 hx
      split at h
      · rename_i fr1 hp
        simp only [Option.some.injEq, Prod.mk.injEq] at h
        obtain ⟨rfl, rfl⟩ := h
        obtain ⟨e', w', hrun, hi', hs⟩ := hex hx
        exact ⟨e', w', undef, undef, fr.defers, a.defers, .one (apply_skip ho hw (op_notdefer hx (by simp)) hrun), hi', hs, .flat rfl, hp, hdef.mono hs.agrees hs.next⟩
      · cases h
    · rename_i f args A1 hx
      split at h
      · rename_i v A2 hcall
        split at h
        · rename_i fr1 hp
          simp only [Option.some.injEq, Prod.mk.injEq] at h
          obtain ⟨rfl, rfl⟩ := h
          obtain ⟨rfl, args', hrun, hargs, hb⟩ := hex hx
          obtain ⟨fr0, w', v', hs0, hfn, hleave, e', hi', hs, hv⟩ := hc.call hcall hb hi hg hargs (b.atR a (.inRegion ops (i :: rest) :: k) :: cs)
          refine ⟨e', w', v, v', fr.defers, a.defers, ?_, hi', hs, hv, hp, hdef.mono hs.agrees hs.next⟩
          refine .head (apply_enter ho hw (op_notdefer hx (by simp)) hrun) (hs0.trans (.one ?_))
          show step P _ = .next (lone (b.atR (a.put o.dst v') (.inRegion ops rest :: k)) cs w')
          rw [← hfin]
          exact step_leave_returned hleave
        · cases h
      · cases h
    · rename_i l args A1 hx
      split at h
      · rename_i v A2 hcall
        split at h
        · rename_i fr1 hp
          simp only [Option.some.injEq, Prod.mk.injEq] at h
          obtain ⟨rfl, rfl⟩ := h
          obtain ⟨rfl, fn, t, nt, params, assign, body, st, pend, dl, hL, args', tmps, ht, hargs, hsz, hrun⟩ := hex hx
          obtain ⟨w', v', hs0, e', hi', hs, hv⟩ := hc.round hcall hi hg hL ht hargs hsz (b.atR a (.inRegion ops (i :: rest) :: k)) cs
          refine ⟨e', w', v, v', fr.defers, a.defers, ?_, hi', hs, hv, hp, hdef.mono hs.agrees hs.next⟩
          rw [hfin] at hs0
          exact .head (apply_round ho hw (op_notdefer hx (by simp)) hrun) hs0
        · cases h
      · cases h
    · rename_i d A1 hx
      split at h
      · cases h
      · rename_i hround
        split at h
        · rename_i fr1 hp
          simp only [Option.some.injEq, Prod.mk.injEq] at h
          obtain ⟨rfl, rfl⟩ := h
          obtain ⟨rfl, d', hrun, hd⟩ := hex hx
          exact ⟨e, w, undef, undef, d :: fr.defers, d' :: a.defers, .one (apply_defer ho hw (hf.2.2 (by simpa using hround)) hrun), hi, Step.refl e _ w, .flat rfl, hp, .cons (.inl hd) hdef⟩
        · cases h
    · cases h
  · cases h
theorem evalOp_put {fr fr' : Fr} {o : Oper} {A' : AS} (h : evalOp P cc ops o fr A = some (fr', A')) : ∃ v ds, ({ fr with defers := ds } : Fr).put o.dst v = some fr' := by
  unfold evalOp at h
  repeat' split at h
  all_goals first
    | (cases h; done)
    | (rename_i hp
       simp only [Option.some.injEq, Prod.mk.injEq] at h
       obtain ⟨rfl, _⟩ := h
       first
       | exact ⟨_, fr.defers, hp⟩
       | exact ⟨_, _, hp⟩)
inductive How (P : Program) (cc : Calls2) (ops : Array Oper) (s : PStep) (o : Oper) (fr : Fr) (A : AS) (hist : List AS) (fr' : Fr) : AS → List AS → Prop where
  | skip (hw : Region.wanted o (yieldedA ops fr) = false) (hp : fr.put o.dst undef = some fr') (he : s.c ≠ .effect) : How P cc ops s o fr A hist fr' A hist
  | skipE (hw : Region.wanted o (yieldedA ops fr) = false) (hp : fr.put o.dst undef = some fr') (he : s.c = .effect) : How P cc ops s o fr A hist fr' A (A :: hist)
  | pure {v : Value} {A1 : AS} (hw : Region.wanted o (yieldedA ops fr) = true) (hok : opOk o = true) (hc : s.c = .pure) (hx : aExec P (ev fr) o A = some (.value v, A1))
      (hp : fr.put o.dst v = some fr') : How P cc ops s o fr A hist fr' A hist
  | read {v : Value} (hw : Region.wanted o (yieldedA ops fr) = true) (hok : opOk o = true) (hc : s.c = .read) (hx : readAll P fr o (hist.take (s.lag + 1)) = some v)
      (hp : fr.put o.dst v = some fr') : How P cc ops s o fr A hist fr' A hist
  | alloc {v : Value} {A' : AS} (hw : Region.wanted o (yieldedA ops fr) = true) (hok : opOk o = true) (hc : s.c = .alloc) (hu : opsUnder fr o A.next = true)
      (hx : aExec P (ev fr) o A = some (.value v, A')) (hp : fr.put o.dst v = some fr') : How P cc ops s o fr A hist fr' A' hist
  | effect {A' : AS} (hw : Region.wanted o (yieldedA ops fr) = true) (hok : opOk o = true) (hc : s.c = .effect) (hu : opsUnder fr o A.next = true)
      (hx : evalOp P cc ops o fr A = some (fr', A')) (hle : A.next ≤ A'.next) : How P cc ops s o fr A hist fr' A' (A' :: hist)
theorem drawStep_how {s : PStep} {o : Oper} {fr fr' : Fr} {A' : AS} {hist hist' : List AS} (h : drawStep P cc ops s fr A hist = some (fr', A', hist')) (ho : ops[s.i]? = some o) :
    How P cc ops s o fr A hist fr' A' hist' := by
  unfold drawStep at h
  rw [ho] at h
  simp only at h
  split at h
  · rename_i hw
    split at h
    · rename_i hok
      split at h
      · rename_i hc
        split at h
        · rename_i v A1 hx
          split at h
          · rename_i fr1 hp
            simp only [Option.some.injEq, Prod.mk.injEq] at h
            obtain ⟨rfl, rfl, rfl⟩ := h
            exact .pure hw hok hc hx hp
          · cases h
        · cases h
      · rename_i hc
        split at h
        · rename_i v hx
          split at h
          · rename_i fr1 hp
            simp only [Option.some.injEq, Prod.mk.injEq] at h
            obtain ⟨rfl, rfl, rfl⟩ := h
            exact .read hw hok hc hx hp
          · cases h
        · cases h
      · rename_i hc
        split at h
        · rename_i hu
          split at h
          · rename_i v A1 hx
            split at h
            · rename_i fr1 hp
              simp only [Option.some.injEq, Prod.mk.injEq] at h
              obtain ⟨rfl, rfl, rfl⟩ := h
              exact .alloc hw hok hc hu hx hp
            · cases h
          · cases h
        · cases h
      · rename_i hc
        split at h
        · rename_i hu
          split at h
          · rename_i fr1 A1 hx
            split at h
            · rename_i hle
              simp only [Option.some.injEq, Prod.mk.injEq] at h
              obtain ⟨rfl, rfl, rfl⟩ := h
              exact .effect hw hok hc hu hx (by simpa using hle)
            · cases h
          · cases h
        · cases h
    · cases h
  · rename_i hw
    have hw' : Region.wanted o (yieldedA ops fr) = false := by simpa using hw
    split at h
    · rename_i fr1 hp
      split at h
      · rename_i hc
        simp only [Option.some.injEq, Prod.mk.injEq] at h
        obtain ⟨rfl, rfl, rfl⟩ := h
        exact .skipE hw' hp hc
      · rename_i hc
        simp only [Option.some.injEq, Prod.mk.injEq] at h
        obtain ⟨rfl, rfl, rfl⟩ := h
        exact .skip hw' hp hc
    · cases h
structure StepIs (s : PStep) (o : Oper) (fr : Fr) (A : AS) (hist : List AS) (fr' : Fr) (A' : AS) (hist' : List AS) : Prop where
  put : ∃ v ds, ({ fr with defers := ds } : Fr).put o.dst v = some fr' ∧ (s.c ≠ .effect → ds = fr.defers)
  mem : s.c ≠ .effect → hist' = hist ∧ (A' = A ∨ (s.c = .alloc ∧ ∃ obj, A' = A.new obj))
  eff : s.c = .effect → hist' = A' :: hist ∧ A.next ≤ A'.next
theorem How.is {s : PStep} {o : Oper} {fr fr' : Fr} {A' : AS} {hist hist' : List AS} (h : How P cc ops s o fr A hist fr' A' hist') (hk : cls P o.op = s.c) : StepIs s o fr A hist fr' A' hist' := by
  cases h with
  | skip hw hp he => exact ⟨⟨_, fr.defers, hp, fun _ => rfl⟩, fun _ => ⟨rfl, .inl rfl⟩, fun h => absurd h he⟩
  | skipE hw hp he => exact ⟨⟨_, fr.defers, hp, fun _ => rfl⟩, fun h => absurd he h, fun _ => ⟨rfl, Nat.le_refl _⟩⟩
  | pure hw hok hc hx hp => exact ⟨⟨_, fr.defers, hp, fun _ => rfl⟩, fun _ => ⟨rfl, .inl rfl⟩, fun h => by rw [hc] at h; cases h⟩
  | read hw hok hc hx hp => exact ⟨⟨_, fr.defers, hp, fun _ => rfl⟩, fun _ => ⟨rfl, .inl rfl⟩, fun h => by rw [hc] at h; cases h⟩
  | alloc hw hok hc hu hx hp =>
    obtain ⟨v, obj, h1, h2, h3, h4⟩ := exec_alloc (hk.trans hc) hx
    exact ⟨⟨_, fr.defers, hp, fun _ => rfl⟩, fun _ => ⟨rfl, .inr ⟨hc, obj, h2⟩⟩, fun h => by rw [hc] at h; cases h⟩
  | effect hw hok hc hu hx hle =>
    obtain ⟨v, ds, hp⟩ := evalOp_put hx
    exact ⟨⟨v, ds, hp, fun h => absurd hc h⟩, fun h => absurd hc h, fun _ => ⟨rfl, hle⟩⟩
structure Canon (P : Program) (cc : Calls2) (ops : Array Oper) (ss : List PStep) (F : Nat → Fr) (M : Nat → AS) (H : Nat → List AS) : Prop where
  step : ∀ j s, ss[j]? = some s → drawStep P cc ops s (F j) (M j) (H j) = some (F (j + 1), M (j + 1), H (j + 1))
theorem drawGo_canon : ∀ (ss : List PStep) {fr fr' : Fr} {A A' : AS} {hist : List AS}, drawGo P cc ops ss fr A hist = some (fr', A') →
    ∃ F M H, F 0 = fr ∧ M 0 = A ∧ H 0 = hist ∧ Canon P cc ops ss F M H ∧ F ss.length = fr' ∧ M ss.length = A'
  | [], fr, fr', A, A', hist, h => by
    simp only [drawGo, Option.some.injEq, Prod.mk.injEq] at h
    exact ⟨fun _ => fr, fun _ => A, fun _ => hist, rfl, rfl, rfl, ⟨fun j s hs => by simp at hs⟩, h.1, h.2⟩
  | s :: ss, fr, fr', A, A', hist, h => by
    unfold drawGo at h
    split at h
    · rename_i fr1 A1 hist1 h1
      obtain ⟨F, M, H, hF, hM, hH, hc, hf, ha⟩ := drawGo_canon ss h
      refine ⟨fun j => match j with | 0 => fr | j + 1 => F j, fun j => match j with | 0 => A | j + 1 => M j, fun j => match j with | 0 => hist | j + 1 => H j, rfl, rfl, rfl, ⟨?_⟩, hf, ha⟩
      intro j s' hs'
      cases j with
      | zero =>
        simp at hs'; subst hs'
        show drawStep P cc ops s fr A hist = some (F 0, M 0, H 0)
        rw [hF, hM, hH]; exact h1
      | succ j => exact hc.step j s' (by simpa using hs')
    · cases h
end Go.Dp
namespace Go.Dp
open Go
variable {P : Program} {cc : Calls2} {ops : Array Oper} {ss : List PStep} {F : Nat → Fr} {M : Nat → AS} {H : Nat → List AS}
structure PairIs (ops : Array Oper) (s' s : PStep) (o' o : Oper) : Prop where
  ne : s'.i ≠ s.i
  not : bef (Region.before ops) s'.i s.i = false
  eff : s.c = .effect → bef (Region.before ops) s.i s'.i = true
  dst : ∀ d, o.dst = some d → o'.dst ≠ some d
  reads : ∀ d, o'.dst = some d → d ∈ looksAt ops o → bef (Region.before ops) s.i s'.i = true
  writes : ∀ d, o.dst = some d → d ∈ looksAt ops o' → bef (Region.before ops) s.i s'.i = true
structure Planned (P : Program) (ops : Array Oper) (ss : List PStep) : Prop where
  kind : ∀ (j : Nat) (s : PStep), ss[j]? = some s → ∃ o, ops[s.i]? = some o ∧ cls P o.op = s.c
  all : ∀ i, i < ops.size → ∃ (j : Nat) (s : PStep), ss[j]? = some s ∧ s.i = i
  acyc : ∀ (i : Nat) (o : Oper), ops[i]? = some o → ∀ e ∈ o.after, Region.binds .any e = true → e.on < i
  pairIs : ∀ ⦃j' j : Nat⦄ ⦃s' s : PStep⦄ ⦃o' o : Oper⦄, j' < j → ss[j']? = some s' → ss[j]? = some s → ops[s'.i]? = some o' → ops[s.i]? = some o → PairIs ops s' s o' o
  lag : ∀ (j : Nat) (s : PStep), ss[j]? = some s → s.c = .read → ((ss.take j).filter fun s' => decide (s'.c = .effect) && !(bef (Region.before ops) s.i s'.i)).length ≤ s.lag
theorem pairsOk_spec {b : Array Nat} : ∀ (ss : List PStep), pairsOk ops b ss = true → ∀ (j' j : Nat) (s' s : PStep), j' < j → ss[j']? = some s' → ss[j]? = some s → pairOk ops b s' s = true
  | [], _, j', j, s', s, _, h, _ => by simp at h
  | x :: xs, h, j', j, s', s, hlt, h1, h2 => by
    simp only [pairsOk, Bool.and_eq_true, List.all_eq_true] at h
    cases j with
    | zero => omega
    | succ j =>
      simp only [List.getElem?_cons_succ] at h2
      cases j' with
      | zero =>
        simp only [List.getElem?_cons_zero, Option.some.injEq] at h1
        subst h1
        exact h.1 s (List.mem_of_getElem? h2)
      | succ j' =>
        simp only [List.getElem?_cons_succ] at h1
        exact pairsOk_spec xs h.2 j' j s' s (by omega) h1 h2
theorem lagsOk_spec {b : Array Nat} : ∀ (ss : List PStep) (effs : List Nat), lagsOk b effs ss = true → ∀ (j : Nat) (s : PStep), ss[j]? = some s → s.c = .read →
    (effs.filter fun k => !(bef b s.i k)).length + ((ss.take j).filter fun s' => decide (s'.c = .effect) && !(bef b s.i s'.i)).length ≤ s.lag
  | [], _, _, j, s, h, _ => by simp at h
  | x :: xs, effs, h, j, s, hs, hr => by
    unfold lagsOk at h
    simp only [Bool.and_eq_true] at h
    cases j with
    | zero =>
      simp only [List.getElem?_cons_zero, Option.some.injEq] at hs
      subst hs
      have h1 := h.1
      rw [hr] at h1
      simpa using h1
    | succ j =>
      simp only [List.getElem?_cons_succ] at hs
      have := lagsOk_spec xs _ h.2 j s hs hr
      rw [List.take_succ_cons]
      by_cases hx : x.c = .effect
      · simp only [hx, List.filter_cons] at this
        rw [List.filter_cons]
        simp only [hx, decide_true, Bool.true_and]
        split at this
        · rename_i hb; simp only [hb, if_true, List.length_cons] at this ⊢; omega
        · rename_i hb; simp only [hb] at this ⊢; exact this
      · rw [List.filter_cons]
        revert this
        split
        · rename_i hc; exact absurd hc hx
        · intro this; simpa [hx] using this
theorem Planned.ne (h : Planned P ops ss) {j j' : Nat} {s s' : PStep} (hj : ss[j]? = some s) (hj' : ss[j']? = some s') (hi : s.i = s'.i) : j = j' := by
  have key : ∀ {j j' : Nat} {s s' : PStep}, ss[j]? = some s → ss[j']? = some s' → s.i = s'.i → ¬ j < j' := by
    intro j j' s s' hj hj' hi hlt
    obtain ⟨o, ho, _⟩ := h.kind j s hj
    obtain ⟨o', ho', _⟩ := h.kind j' s' hj'
    exact (h.pairIs hlt hj hj' ho ho').ne hi
  have h1 := key hj hj' hi
  have h2 := key hj' hj hi.symm
  omega
def Ag (e e' : Env) (p : Nat → Prop) : Prop := ∀ B, p B → e'.loc B = e.loc B ∧ e'.off B = e.off B ∧ e'.ext B = e.ext B
theorem Ag.refl (e : Env) (p : Nat → Prop) : Ag e e p := fun _ _ => ⟨rfl, rfl, rfl⟩
theorem Ag.trans {e e' e'' : Env} {p p' : Nat → Prop} (h : Ag e e' p) (h' : Ag e' e'' p') (hp : ∀ B, p B → p' B) : Ag e e'' p := fun B hB => by
  obtain ⟨a, b, c⟩ := h B hB
  obtain ⟨a', b', c'⟩ := h' B (hp B hB)
  exact ⟨a'.trans a, b'.trans b, c'.trans c⟩
def VRq (e : Env) (p : Nat → Prop) (N : Nat) (v v' : Value) : Prop := ∀ e'', Ag e e'' p → VR e'' N v v'
theorem VRq.self {e : Env} {p : Nat → Prop} {N : Nat} {v v' : Value} (h : VRq e p N v v') : VR e N v v' := h e (Ag.refl e p)
theorem VRq.up {e e' : Env} {p p' : Nat → Prop} {N : Nat} {v v' : Value} (h : VRq e p N v v') (hp : ∀ B, p B → p' B) (ha : Ag e e' p) : VRq e' p' N v v' :=
  fun e'' he => h e'' (ha.trans he hp)
theorem VRq.of {e : Env} {p : Nat → Prop} {n N : Nat} {v v' : Value} (h : VR e n v v') (hp : ∀ B, B < n → p B) (hn : n ≤ N) : VRq e p N v v' :=
  fun e'' he => h.mono (fun B hB => he B (hp B hB)) hn
def tv (F : Nat → Fr) (j d : Nat) : Value := ((F j).t.get d).getD undef
theorem Canon.is (hc : Canon P cc ops ss F M H) (hp : Planned P ops ss) {j : Nat} {s : PStep} (hs : ss[j]? = some s) :
    ∃ o, ops[s.i]? = some o ∧ cls P o.op = s.c ∧ How P cc ops s o (F j) (M j) (H j) (F (j + 1)) (M (j + 1)) (H (j + 1)) ∧ StepIs s o (F j) (M j) (H j) (F (j + 1)) (M (j + 1)) (H (j + 1)) := by
  obtain ⟨o, ho, hk⟩ := hp.kind j s hs
  have hw := drawStep_how (hc.step j s hs) ho
  exact ⟨o, ho, hk, hw, hw.is hk⟩
theorem Canon.next1 (hc : Canon P cc ops ss F M H) (hp : Planned P ops ss) {j : Nat} (hj : j < ss.length) : (M j).next ≤ (M (j + 1)).next := by
  obtain ⟨o, ho, hk, hw, is⟩ := hc.is hp (List.getElem?_eq_getElem hj)
  by_cases he : ss[j].c = .effect
  · exact (is.eff he).2
  · rcases (is.mem he).2 with h | ⟨_, obj, h⟩
    · rw [h]; exact Nat.le_refl _
    · rw [h]; exact Nat.le_succ _
theorem Canon.next (hc : Canon P cc ops ss F M H) (hp : Planned P ops ss) {i : Nat} : ∀ j, i ≤ j → j ≤ ss.length → (M i).next ≤ (M j).next
  | 0, h, _ => by have : i = 0 := by omega
                  subst this; exact Nat.le_refl _
  | j + 1, h, hj => by
    rcases Nat.lt_or_ge i (j + 1) with h1 | h1
    · exact Nat.le_trans (hc.next hp j (by omega) (by omega)) (hc.next1 hp (by omega))
    · have : i = j + 1 := by omega
      subst this; exact Nat.le_refl _
theorem put_tv {fr fr' : Fr} {ds : List Deferred} {dst : Option Tmp} {v : Value} (hp : ({ fr with defers := ds } : Fr).put dst v = some fr') :
    fr'.nt = fr.nt ∧ fr'.fn = fr.fn ∧ fr'.inRound = fr.inRound ∧ fr'.defers = ds ∧ (∀ d, dst ≠ some d → fr'.t.get d = fr.t.get d) ∧ (∀ d, dst = some d → fr'.t.get d = some v ∧ d < fr.nt) := by
  obtain ⟨p1, p2, p3, p4⟩ := put_fields hp
  refine ⟨p1, p3, p4, p2, ?_, ?_⟩
  · intro d hd
    cases dst with
    | none => simp only [Fr.put, Option.some.injEq] at hp; subst hp; rfl
    | some x =>
      simp only [Fr.put] at hp
      split at hp
      · simp only [Option.some.injEq] at hp; subst hp
        simp only [Trie.get_set]
        have : ¬ x = d := fun h => hd (by rw [h])
        simp [this]
      · cases hp
  · intro d hd
    subst hd
    simp only [Fr.put] at hp
    split at hp
    · rename_i hlt
      simp only [Option.some.injEq] at hp; subst hp
      exact ⟨by simp [Trie.get_set], by simpa using hlt⟩
    · cases hp
theorem Canon.fields (hc : Canon P cc ops ss F M H) (hp : Planned P ops ss) : ∀ j, j ≤ ss.length → (F j).nt = (F 0).nt ∧ (F j).fn = (F 0).fn ∧ (F j).inRound = (F 0).inRound
  | 0, _ => ⟨rfl, rfl, rfl⟩
  | j + 1, h => by
    obtain ⟨o, ho, hk, hw, is⟩ := hc.is hp (List.getElem?_eq_getElem (show j < ss.length by omega))
    obtain ⟨v, ds, hput, _⟩ := is.put
    obtain ⟨a, b, c, _⟩ := put_tv hput
    obtain ⟨a', b', c'⟩ := hc.fields hp j (by omega)
    exact ⟨a.trans a', b.trans b', c.trans c'⟩
theorem Canon.above (hc : Canon P cc ops ss F M H) (hp : Planned P ops ss) (h0 : ∀ k, (F 0).nt ≤ k → (F 0).t.get k = none) : ∀ j, j ≤ ss.length → ∀ k, (F 0).nt ≤ k → (F j).t.get k = none
  | 0, _ => h0
  | j + 1, h => fun k hk => by
    obtain ⟨o, ho, hkk, hw, is⟩ := hc.is hp (List.getElem?_eq_getElem (show j < ss.length by omega))
    obtain ⟨v, ds, hput, _⟩ := is.put
    obtain ⟨_, _, _, _, ht, hs⟩ := put_tv hput
    have ih := hc.above hp h0 j (by omega) k hk
    by_cases hd : o.dst = some k
    · have h2 : k < (F j).nt := (hs k hd).2
      rw [(hc.fields hp j (by omega)).1] at h2
      exact absurd h2 (Nat.not_lt.2 hk)
    · rw [ht k hd, ih]
theorem Canon.tv_same (hc : Canon P cc ops ss F M H) (hp : Planned P ops ss) {d i : Nat} : ∀ j, i ≤ j → j ≤ ss.length →
    (∀ (k : Nat) (s : PStep) (o : Oper), i ≤ k → k < j → ss[k]? = some s → ops[s.i]? = some o → o.dst ≠ some d) → tv F j d = tv F i d
  | 0, h, _, _ => by have : i = 0 := by omega
                     subst this; rfl
  | j + 1, h, hj, hn => by
    rcases Nat.lt_or_ge i (j + 1) with h1 | h1
    · have hs := List.getElem?_eq_getElem (show j < ss.length by omega)
      obtain ⟨o, ho, hkk, hw, is⟩ := hc.is hp hs
      obtain ⟨v, ds, hput, _⟩ := is.put
      obtain ⟨_, _, _, _, ht, _⟩ := put_tv hput
      have hne := hn j _ o (by omega) (by omega) hs ho
      rw [← hc.tv_same hp j (by omega) (by omega) fun k s o a b => hn k s o a (by omega)]
      unfold tv
      rw [ht d hne]
    · have : i = j + 1 := by omega
      subst this; rfl
def Early (M : Nat → AS) (ss : List PStep) (D : Nat → Prop) (c j : Nat) (obj : AObj) : Prop :=
  c ≤ j ∧ (∃ s, ss[j]? = some s ∧ D s.i ∧ s.c ≠ .effect) ∧ M (j + 1) = (M j).new obj
def Named (M : Nat → AS) (ss : List PStep) (D : Nat → Prop) (c : Nat) (B : Nat) : Prop :=
  B < (M c).next ∨ ∃ j obj, Early M ss D c j obj ∧ B = (M j).next
structure MemOk (e0 : Env) (w0 : World) (M : Nat → AS) (ss : List PStep) (D : Nat → Prop) (c : Nat) (e : Env) (w : World) : Prop where
  inv : Inv e (M c) w
  glob : Glob e (M c)
  early : ∀ j obj, Early M ss D c j obj → (∀ e'', Ag e e'' (Named M ss D c) → ObjAt e'' ((M j).next + 1) (M 0).ro w (M j).next obj) ∧
    w0.heap.size ≤ e.loc (M j).next ∧ (∀ B o, (M c).get B = some o → e.loc B ≠ e.loc (M j).next)
  apart : ∀ j obj j' obj', Early M ss D c j obj → Early M ss D c j' obj' → j ≠ j' → e.loc (M j).next ≠ e.loc (M j').next
  env : ∀ B, B < (M 0).next ∨ (M ss.length).next ≤ B → e.loc B = e0.loc B ∧ e.off B = e0.off B ∧ e.ext B = e0.ext B
  ro : (M c).ro = (M 0).ro
  fixed : ∀ B, B < (M 0).ro → (M c).get B = (M 0).get B
  locs : ∀ B o, (M c).get B = some o → (M 0).ro ≤ B → w0.heap.size ≤ e.loc B ∨ ∃ C o', (M 0).get C = some o' ∧ (M 0).ro ≤ C ∧ e0.loc C = e.loc B
  size : w0.heap.size ≤ w.heap.size
  keep : ∀ b, b < w0.heap.size → (∀ C o, (M 0).get C = some o → (M 0).ro ≤ C → e0.loc C ≠ b) → w.heap[b]? = w0.heap[b]?
  tape : w.tape = w0.tape
  os : w.os = w0.os
  output : w.output = w0.output
theorem MemOk.old {e0 e : Env} {w0 w : World} {D : Nat → Prop} {c : Nat} (h : MemOk e0 w0 M ss D c e w) {b : Nat} (hb : b < w0.heap.size)
    (hn : ∀ C o, (M 0).get C = some o → (M 0).ro ≤ C → e0.loc C ≠ b) : ∀ C o, (M c).get C = some o → (M c).ro ≤ C → e.loc C ≠ b := by
  intro C o hC hr heq
  rw [h.ro] at hr
  rcases h.locs C o hC hr with hl | ⟨C', o', hC', hr', hl⟩
  · omega
  · exact hn C' o' hC' hr' (hl.trans heq)
theorem Inv.frame {e e' : Env} {A : AS} {w w' : World} (h : Inv e A w) (ha : e.agrees e' A.next) (hw : ∀ b, b < w.heap.size → w'.heap[b]? = w.heap[b]?) : Inv e' A w' where
  obj := fun B o hB => (h.obj B o hB).mono (h.dom B o hB) ha (Nat.le_refl _) (hw _ (h.obj B o hB).lt)
  dom := h.dom
  inj := fun B B' o o' hB hB' hne hr => by
    rw [(ha B (h.dom B o hB)).1, (ha B' (h.dom B' o' hB')).1]
    exact h.inj B B' o o' hB hB' hne hr
  le := h.le
theorem MemOk.stay {e0 e : Env} {w0 w w' : World} {D : Nat → Prop} {c j : Nat} {s : PStep} (hp : Planned P ops ss) (h : MemOk e0 w0 M ss D c e w) (hj : c ≤ j) (hs : ss[j]? = some s)
    (hM : M (j + 1) = M j) (hi : Inv e (M c) w') (hst : Step e (M c) w e (M c) w') : MemOk e0 w0 M ss (fun i => D i ∨ i = s.i) c e w' ∧ ∀ B, Named M ss D c B ↔ Named M ss (fun i => D i ∨ i = s.i) c B := by
  have hE : ∀ k obj, Early M ss D c k obj ↔ Early M ss (fun i => D i ∨ i = s.i) c k obj := by
    intro k obj
    constructor
    · rintro ⟨h1, ⟨s', hs', hD, hc⟩, h3⟩
      exact ⟨h1, ⟨s', hs', .inl hD, hc⟩, h3⟩
    · rintro ⟨h1, ⟨s', hs', hD | hD, hc⟩, h3⟩
      · exact ⟨h1, ⟨s', hs', hD, hc⟩, h3⟩
      · have := hp.ne hs' hs hD
        subst this
        rw [hM] at h3
        have := congrArg AS.next h3
        simp [AS.new] at this
  have hN : ∀ B, Named M ss D c B ↔ Named M ss (fun i => D i ∨ i = s.i) c B := by
    intro B
    unfold Named
    constructor
    · rintro (h | ⟨k, obj, h, hB⟩)
      · exact .inl h
      · exact .inr ⟨k, obj, (hE k obj).1 h, hB⟩
    · rintro (h | ⟨k, obj, h, hB⟩)
      · exact .inl h
      · exact .inr ⟨k, obj, (hE k obj).2 h, hB⟩
  refine ⟨⟨hi, h.glob, ?_, ?_, h.env, h.ro, h.fixed, h.locs, Nat.le_trans h.size hst.size, ?_, hst.tape.trans h.tape, hst.os.trans h.os, hst.output.trans h.output⟩, hN⟩
  · intro k obj hk
    obtain ⟨h1, h2, h3⟩ := h.early k obj ((hE k obj).2 hk)
    refine ⟨fun e'' he => ?_, h2, h3⟩
    have ho := h1 e'' (fun B hB => he B ((hN B).1 hB))
    refine ho.mono (Nat.lt_succ_self _) (fun _ _ => ⟨rfl, rfl, rfl⟩) (Nat.le_refl _) ?_
    have hn : Named M ss (fun i => D i ∨ i = s.i) c (M k).next := .inr ⟨k, obj, hk, rfl⟩
    rw [(he _ hn).1]
    refine hst.keep _ ?_ ?_
    · have := ho.lt
      rw [(he _ hn).1] at this; exact this
    · intro C o hC hr
      exact h3 C o hC
  · intro k obj k' obj' hk hk' hne
    exact h.apart k obj k' obj' ((hE _ _).2 hk) ((hE _ _).2 hk') hne
  · intro b hb hn
    rw [hst.keep b (Nat.lt_of_lt_of_le hb h.size) (h.old hb hn)]
    exact h.keep b hb hn
theorem MemOk.lay {e0 e e1 : Env} {w0 w w' : World} {D : Nat → Prop} {c j : Nat} {s : PStep} {obj : AObj} (hc : Canon P cc ops ss F M H) (hp : Planned P ops ss) (h : MemOk e0 w0 M ss D c e w)
    (hj : c ≤ j) (hs : ss[j]? = some s) (hD : ¬ D s.i) (he : s.c ≠ .effect) (hM : M (j + 1) = (M j).new obj)
    (ha : ∀ B, B ≠ (M j).next → e1.loc B = e.loc B ∧ e1.off B = e.off B ∧ e1.ext B = e.ext B)
    (ho : ∀ e'', Ag e1 e'' (Named M ss (fun i => D i ∨ i = s.i) c) → ObjAt e'' ((M j).next + 1) (M 0).ro w' (M j).next obj)
    (hl : w.heap.size ≤ e1.loc (M j).next) (hw : ∀ b, b < w.heap.size → w'.heap[b]? = w.heap[b]?) (hz : w.heap.size ≤ w'.heap.size) (ht : w'.tape = w.tape) (hos : w'.os = w.os) (hout : w'.output = w.output) :
    MemOk e0 w0 M ss (fun i => D i ∨ i = s.i) c e1 w' ∧ (∀ B, Named M ss D c B → Named M ss (fun i => D i ∨ i = s.i) c B) ∧ Ag e e1 (Named M ss D c) := by
  have hjl : j < ss.length := (List.getElem?_eq_some_iff.1 hs).1
  have hnx : (M (j + 1)).next = (M j).next + 1 := by rw [hM]; rfl
  have hE : ∀ k ob, Early M ss (fun i => D i ∨ i = s.i) c k ob → (k = j ∧ ob = obj) ∨ (k ≠ j ∧ Early M ss D c k ob) := by
    rintro k ob ⟨h1, ⟨s', hs', hD' | hD', hc'⟩, h3⟩
    · refine .inr ⟨fun hkj => ?_, h1, ⟨s', hs', hD', hc'⟩, h3⟩
      subst hkj
      rw [hs] at hs'; cases hs'
      exact hD hD'
    · have := hp.ne hs' hs hD'
      subst this
      refine .inl ⟨rfl, ?_⟩
      rw [hM] at h3
      have h4 := congrArg (fun A => A.get (M k).next) h3
      simp only [AS.get_new, if_true, Option.some.injEq] at h4
      exact h4.symm
  have hE' : ∀ k ob, Early M ss D c k ob → Early M ss (fun i => D i ∨ i = s.i) c k ob := by
    rintro k ob ⟨h1, ⟨s', hs', hD', hc'⟩, h3⟩
    exact ⟨h1, ⟨s', hs', .inl hD', hc'⟩, h3⟩
  have hEj : Early M ss (fun i => D i ∨ i = s.i) c j obj := ⟨hj, ⟨s, hs, .inr rfl, he⟩, hM⟩
  have hEn : ∀ k ob, Early M ss D c k ob → (M k).next ≠ (M j).next := by
    rintro k ob ⟨h1, ⟨s', hs', hD', hc'⟩, h3⟩
    have hkl : k < ss.length := (List.getElem?_eq_some_iff.1 hs').1
    have hne : k ≠ j := fun hkj => by subst hkj; rw [hs] at hs'; cases hs'; exact hD hD'
    have hnk : (M (k + 1)).next = (M k).next + 1 := by rw [h3]; rfl
    rcases Nat.lt_or_ge k j with hlt | hge
    · have := hc.next hp (i := k + 1) j (by omega) (by omega); omega
    · have := hc.next hp (i := j + 1) k (by omega) (by omega); omega
  have hcj := hc.next hp (i := c) j hj (by omega)
  have hNn : ∀ B, Named M ss D c B → B ≠ (M j).next := by
    rintro B (hB | ⟨k, ob, hk, rfl⟩)
    · omega
    · exact hEn k ob hk
  have hN : ∀ B, Named M ss D c B → Named M ss (fun i => D i ∨ i = s.i) c B := by
    rintro B (hB | ⟨k, ob, hk, rfl⟩)
    · exact .inl hB
    · exact .inr ⟨k, ob, hE' k ob hk, rfl⟩
  have hag : Ag e e1 (Named M ss D c) := fun B hB => ha B (hNn B hB)
  have hagn : e.agrees e1 (M c).next := fun B hB => ha B (by omega)
  refine ⟨⟨h.inv.frame hagn hw, ?_, ?_, ?_, ?_, h.ro, h.fixed, ?_, Nat.le_trans h.size hz, ?_, ht.trans h.tape, hos.trans h.os, hout.trans h.output⟩, hN, hag⟩
  · refine ⟨h.glob.1, fun g hg => ?_⟩
    obtain ⟨a, b, _⟩ := hagn g (Nat.lt_of_lt_of_le hg h.glob.1)
    rw [a, b]; exact h.glob.2 g hg
  · intro k ob hk
    rcases hE k ob hk with ⟨rfl, rfl⟩ | ⟨hne, hk'⟩
    · refine ⟨ho, Nat.le_trans h.size hl, fun B o hB => ?_⟩
      have hlt := (h.inv.obj B o hB).lt
      rw [(hagn B (h.inv.dom B o hB)).1]
      omega
    · obtain ⟨h1, h2, h3⟩ := h.early k ob hk'
      have hnm : Named M ss D c (M k).next := .inr ⟨k, ob, hk', rfl⟩
      refine ⟨fun e'' he'' => ?_, ?_, ?_⟩
      · have hob := h1 e'' (hag.trans he'' hN)
        exact hob.mono (Nat.lt_succ_self _) (fun _ _ => ⟨rfl, rfl, rfl⟩) (Nat.le_refl _) (hw _ hob.lt)
      · rw [(hag _ hnm).1]; exact h2
      · intro B o hB
        rw [(hag _ hnm).1, (hagn B (h.inv.dom B o hB)).1]
        exact h3 B o hB
  · intro k ob k' ob' hk hk' hne
    have hlt : ∀ k ob, Early M ss D c k ob → e.loc (M k).next < w.heap.size := fun k ob hk => ((h.early k ob hk).1 e (Ag.refl _ _)).lt
    have hnm : ∀ k ob, Early M ss D c k ob → Named M ss D c (M k).next := fun k ob hk => .inr ⟨k, ob, hk, rfl⟩
    rcases hE k ob hk with ⟨rfl, rfl⟩ | ⟨h1, h2⟩
    · rcases hE k' ob' hk' with ⟨rfl, rfl⟩ | ⟨h3, h4⟩
      · exact absurd rfl hne
      · have := hlt k' ob' h4
        rw [(hag _ (hnm k' ob' h4)).1]; omega
    · rcases hE k' ob' hk' with ⟨rfl, rfl⟩ | ⟨h3, h4⟩
      · have := hlt k ob h2
        rw [(hag _ (hnm k ob h2)).1]; omega
      · rw [(hag _ (hnm k ob h2)).1, (hag _ (hnm k' ob' h4)).1]
        exact h.apart k ob k' ob' h2 h4 hne
  · intro B hB
    have h0 := hc.next hp (i := 0) j (by omega) (by omega)
    have h1 := hc.next hp (i := j + 1) ss.length (by omega) (Nat.le_refl _)
    obtain ⟨a, b, c⟩ := ha B (by omega)
    obtain ⟨a', b', c'⟩ := h.env B hB
    exact ⟨a.trans a', b.trans b', c.trans c'⟩
  · intro B o hB hr
    rw [(hagn B (h.inv.dom B o hB)).1]
    exact h.locs B o hB hr
  · intro b hb hn
    rw [hw b (Nat.lt_of_lt_of_le hb h.size)]
    exact h.keep b hb hn
theorem MemOk.adopt {e0 e : Env} {w0 w : World} {D : Nat → Prop} {c : Nat} {s : PStep} (hc : Canon P cc ops ss F M H) (hp : Planned P ops ss) (h : MemOk e0 w0 M ss D c e w)
    (hs : ss[c]? = some s) (hD : D s.i) (he : s.c ≠ .effect) : MemOk e0 w0 M ss D (c + 1) e w ∧ ∀ B, Named M ss D c B → Named M ss D (c + 1) B := by
  have hcl : c < ss.length := (List.getElem?_eq_some_iff.1 hs).1
  obtain ⟨o, ho, hk, hw, is⟩ := hc.is hp hs
  have hE : ∀ k ob, Early M ss D (c + 1) k ob → Early M ss D c k ob := fun k ob ⟨h1, h2, h3⟩ => ⟨by omega, h2, h3⟩
  have hN : ∀ B, Named M ss D c B → Named M ss D (c + 1) B := by
    rintro B (hB | ⟨k, ob, ⟨h1, h2, h3⟩, rfl⟩)
    · exact .inl (Nat.lt_of_lt_of_le hB (hc.next1 hp hcl))
    · by_cases hkc : k = c
      · subst hkc
        left
        rw [h3]; exact Nat.lt_succ_self _
      · exact .inr ⟨k, ob, ⟨by omega, h2, h3⟩, rfl⟩
  refine ⟨?_, hN⟩
  rcases (is.mem he).2 with hM | ⟨_, obj, hM⟩
  · refine ⟨by rw [hM]; exact h.inv, by rw [hM]; exact h.glob, ?_, ?_, h.env, by rw [hM]; exact h.ro, by rw [hM]; exact h.fixed, by rw [hM]; exact h.locs, h.size, h.keep, h.tape, h.os, h.output⟩
    · intro k ob hk
      obtain ⟨h1, h2, h3⟩ := h.early k ob (hE k ob hk)
      exact ⟨fun e'' he'' => h1 e'' (fun B hB => he'' B (hN B hB)), h2, by rw [hM]; exact h3⟩
    · intro k ob k' ob' hk hk' hne
      exact h.apart k ob k' ob' (hE _ _ hk) (hE _ _ hk') hne
  · have hEc : Early M ss D c c obj := ⟨Nat.le_refl _, ⟨s, hs, hD, he⟩, hM⟩
    obtain ⟨h1, h2, h3⟩ := h.early c obj hEc
    have hget : ∀ B, (M (c + 1)).get B = if (M c).next = B then some obj else (M c).get B := fun B => by rw [hM, AS.get_new]
    have hnx : (M (c + 1)).next = (M c).next + 1 := by rw [hM]; rfl
    have hro : (M (c + 1)).ro = (M c).ro := by rw [hM]; rfl
    have hle := h.inv.le
    refine ⟨⟨?_, ?_, ?_, ?_⟩, ⟨?_, h.glob.2⟩, ?_, ?_, h.env, hro.trans h.ro, ?_, ?_, h.size, h.keep, h.tape, h.os, h.output⟩
    · intro B o hB
      rw [hget] at hB
      rw [hnx, hro]
      split at hB
      · rename_i hn
        subst hn
        simp only [Option.some.injEq] at hB; subst hB
        rw [h.ro]
        exact h1 e (Ag.refl _ _)
      · exact (h.inv.obj B o hB).mono (h.inv.dom B o hB) (fun _ _ => ⟨rfl, rfl, rfl⟩) (Nat.le_succ _) rfl
    · intro B o hB
      rw [hget] at hB
      rw [hnx]
      split at hB
      · omega
      · have := h.inv.dom B o hB; omega
    · intro B B' o1 o2 hB hB' hne hr
      rw [hget] at hB hB'
      rw [hro] at hr
      split at hB
      · rename_i hn
        subst hn
        split at hB'
        · rename_i hn'; exact absurd hn' hne
        · exact fun heq => h3 B' o2 hB' heq.symm
      · split at hB'
        · rename_i hn'
          subst hn'
          exact h3 B o1 hB
        · exact h.inv.inj B B' o1 o2 hB hB' hne hr
    · rw [hnx, hro]; omega
    · rw [hnx]; have := h.glob.1; omega
    · intro k ob hk
      obtain ⟨q1, q2, q3⟩ := h.early k ob (hE k ob hk)
      refine ⟨fun e'' he'' => q1 e'' (fun B hB => he'' B (hN B hB)), q2, ?_⟩
      intro B o hB
      rw [hget] at hB
      split at hB
      · rename_i hn
        subst hn
        exact h.apart c obj k ob hEc (hE k ob hk) (by have := hk.1; omega)
      · exact q3 B o hB
    · intro k ob k' ob' hk hk' hne
      exact h.apart k ob k' ob' (hE _ _ hk) (hE _ _ hk') hne
    · intro B hB
      rw [hget]
      have : (M 0).ro = (M c).ro := h.ro.symm
      have hne : ¬ (M c).next = B := by omega
      simp only [hne, if_false]
      exact h.fixed B hB
    · intro B o hB hr
      rw [hget] at hB
      split at hB
      · rename_i hn
        subst hn
        exact .inl h2
      · exact h.locs B o hB hr
theorem MemOk.turn {e0 e e' : Env} {w0 w w' : World} {D : Nat → Prop} {c : Nat} {s : PStep} (hc : Canon P cc ops ss F M H) (hp : Planned P ops ss) (h : MemOk e0 w0 M ss D c e w)
    (hs : ss[c]? = some s) (hD : ¬ D s.i) (he : s.c = .effect) (hi : Inv e' (M (c + 1)) w') (hst : Step e (M c) w e' (M (c + 1)) w') :
    MemOk e0 w0 M ss (fun i => D i ∨ i = s.i) (c + 1) e' w' ∧ (∀ B, Named M ss D c B → Named M ss (fun i => D i ∨ i = s.i) (c + 1) B) ∧ Ag e e' (Named M ss D c) := by
  have hcl : c < ss.length := (List.getElem?_eq_some_iff.1 hs).1
  have hE : ∀ k ob, Early M ss (fun i => D i ∨ i = s.i) (c + 1) k ob → Early M ss D c k ob := by
    rintro k ob ⟨h1, ⟨s', hs', hD' | hD', hc'⟩, h3⟩
    · exact ⟨by omega, ⟨s', hs', hD', hc'⟩, h3⟩
    · have := hp.ne hs' hs hD'; omega
  have hE' : ∀ k ob, Early M ss D c k ob → Early M ss (fun i => D i ∨ i = s.i) (c + 1) k ob := by
    rintro k ob ⟨h1, ⟨s', hs', hD', hc'⟩, h3⟩
    refine ⟨?_, ⟨s', hs', .inl hD', hc'⟩, h3⟩
    rcases Nat.lt_or_ge c k with h4 | h4
    · omega
    · have : k = c := by omega
      subst this
      rw [hs] at hs'; cases hs'
      exact absurd he hc'
  have hnx := hc.next1 hp hcl
  have hkn : ∀ k ob, Early M ss D c k ob → (M (c + 1)).next ≤ (M k).next := by
    intro k ob hk
    obtain ⟨h1, ⟨s', hs', _, _⟩, _⟩ := hE' k ob hk
    have hkl : k < ss.length := (List.getElem?_eq_some_iff.1 hs').1
    exact hc.next hp k h1 (by omega)
  have hN : ∀ B, Named M ss D c B → Named M ss (fun i => D i ∨ i = s.i) (c + 1) B := by
    rintro B (hB | ⟨k, ob, hk, rfl⟩)
    · exact .inl (by omega)
    · exact .inr ⟨k, ob, hE' k ob hk, rfl⟩
  have hag : Ag e e' (Named M ss D c) := by
    rintro B (hB | ⟨k, ob, hk, rfl⟩)
    · exact hst.env B (.inl hB)
    · exact hst.env _ (.inr (hkn k ob hk))
  refine ⟨⟨hi, h.glob.step hst, ?_, ?_, ?_, hst.ro.trans h.ro, ?_, ?_, Nat.le_trans h.size hst.size, ?_, hst.tape.trans h.tape, hst.os.trans h.os, hst.output.trans h.output⟩, hN, hag⟩
  · intro k ob hk
    obtain ⟨h1, h2, h3⟩ := h.early k ob (hE k ob hk)
    have hnm : Named M ss D c (M k).next := .inr ⟨k, ob, hE k ob hk, rfl⟩
    have hlt := (h1 e (Ag.refl _ _)).lt
    refine ⟨fun e'' he'' => ?_, by rw [(hag _ hnm).1]; exact h2, ?_⟩
    · have hob := h1 e'' (hag.trans he'' hN)
      refine hob.mono (Nat.lt_succ_self _) (fun _ _ => ⟨rfl, rfl, rfl⟩) (Nat.le_refl _) ?_
      rw [((hag.trans he'' hN) _ hnm).1]
      exact hst.keep _ hlt (fun C o hC _ => h3 C o hC)
    · intro B o hB
      rw [(hag _ hnm).1]
      by_cases hr : (M c).ro ≤ B
      · rcases hst.locs B o hB hr with hl | ⟨C, o', hC, hrC, hl⟩
        · omega
        · rw [← hl]; exact h3 C o' hC
      · have hB' := hB
        rw [hst.fixed B (by omega)] at hB'
        rw [(hst.env B (.inl (h.inv.dom B o hB'))).1]
        exact h3 B o hB'
  · intro k ob k' ob' hk hk' hne
    have hnm : ∀ k ob, Early M ss D c k ob → Named M ss D c (M k).next := fun k ob hk => .inr ⟨k, ob, hk, rfl⟩
    rw [(hag _ (hnm k ob (hE k ob hk))).1, (hag _ (hnm k' ob' (hE k' ob' hk'))).1]
    exact h.apart k ob k' ob' (hE _ _ hk) (hE _ _ hk') hne
  · intro B hB
    have h0 := hc.next hp (i := 0) c (by omega) (by omega)
    have h1 := hc.next hp (i := c + 1) ss.length (by omega) (Nat.le_refl _)
    obtain ⟨a, b, c⟩ := hst.env B (by omega)
    obtain ⟨a', b', c'⟩ := h.env B hB
    exact ⟨a.trans a', b.trans b', c.trans c'⟩
  · intro B hB
    rw [hst.fixed B (by rw [h.ro]; exact hB)]
    exact h.fixed B hB
  · intro B o hB hr
    rcases hst.locs B o hB (by rw [h.ro]; exact hr) with hl | ⟨C, o', hC, hrC, hl⟩
    · exact .inl (Nat.le_trans h.size hl)
    · rw [h.ro] at hrC
      rw [← hl]
      exact h.locs C o' hC hrC
  · intro b hb hn
    rw [hst.keep b (Nat.lt_of_lt_of_le hb h.size) (h.old hb hn)]
    exact h.keep b hb hn
end Go.Dp
namespace Go.Dp
open Go
variable {P : Program} {cc : Calls2} {ops : Array Oper} {ss : List PStep} {F : Nat → Fr} {M : Nat → AS} {H : Nat → List AS}
theorem Planned.one (hp : Planned P ops ss) {j j' : Nat} {s s' : PStep} {o o' : Oper} {d : Tmp} (hs : ss[j]? = some s) (hs' : ss[j']? = some s') (ho : ops[s.i]? = some o) (ho' : ops[s'.i]? = some o')
    (hd : o.dst = some d) (hd' : o'.dst = some d) : j = j' := by
  rcases Nat.lt_trichotomy j j' with h | h | h
  · exact absurd hd ((hp.pairIs h hs hs' ho ho').dst d hd')
  · exact h
  · exact absurd hd' ((hp.pairIs h hs' hs ho' ho).dst d hd)
structure FrmOk (ops : Array Oper) (F : Nat → Fr) (M : Nat → AS) (ss : List PStep) (D : Nat → Prop) (c : Nat) (e : Env) (a : Act) : Prop where
  defs : DefsRel e (M c).next (F c).defers a.defers
  size : a.tmps.size = (F 0).nt
  set : ∀ (j : Nat) (s : PStep) (o : Oper) (d : Tmp), ss[j]? = some s → ops[s.i]? = some o → D s.i → o.dst = some d → VRq e (Named M ss D c) (M ss.length).next (tv F (j + 1) d) (a.tmps.getD d undef)
  unset : ∀ d : Tmp, (∀ (j : Nat) (s : PStep) (o : Oper), ss[j]? = some s → ops[s.i]? = some o → D s.i → o.dst ≠ some d) → VRq e (Named M ss D c) (M ss.length).next (tv F 0 d) (a.tmps.getD d undef)
theorem tmps_put_ne {a : Act} {dst : Option Tmp} {v : Value} {ds : List Deferred} {d : Tmp} (h : dst ≠ some d) : ((({ a with defers := ds } : Act).put dst v).tmps.getD d undef) = a.tmps.getD d undef := by
  cases dst with
  | none => rfl
  | some x =>
    have : x ≠ d := fun hx => h (by rw [hx])
    simp [Act.put, Array.getD_eq_getD_getElem?, Array.getElem?_setIfInBounds, this]
theorem tmps_put_eq {a : Act} {v : Value} {ds : List Deferred} {d : Tmp} (h : d < a.tmps.size) : ((({ a with defers := ds } : Act).put (some d) v).tmps.getD d undef) = v := by
  simp [Act.put, Array.getD_eq_getD_getElem?, h]
theorem tmps_put_size {a : Act} {dst : Option Tmp} {v : Value} {ds : List Deferred} : (({ a with defers := ds } : Act).put dst v).tmps.size = a.tmps.size := by
  cases dst <;> simp [Act.put]
theorem put_defers {a : Act} {dst : Option Tmp} {v : Value} {ds : List Deferred} : (({ a with defers := ds } : Act).put dst v).defers = ds := by
  cases dst <;> simp [Act.put]
theorem FrmOk.put {D D' : Nat → Prop} {c c' j : Nat} {e e' : Env} {a : Act} {s : PStep} {o : Oper} {v v' : Value} {ds ds' : List Deferred} (hc : Canon P cc ops ss F M H) (hp : Planned P ops ss)
    (h : FrmOk ops F M ss D c e a) (hs : ss[j]? = some s) (ho : ops[s.i]? = some o) (hD : ¬ D s.i) (hD' : ∀ i, D' i ↔ D i ∨ i = s.i) (hput : ({ F j with defers := ds } : Fr).put o.dst v = some (F (j + 1)))
    (hv : VRq e' (Named M ss D' c') (M ss.length).next v v') (hsub : ∀ B, Named M ss D c B → Named M ss D' c' B) (hag : Ag e e' (Named M ss D c)) (hdef : DefsRel e' (M c').next (F c').defers ds') :
    FrmOk ops F M ss D' c' e' (({ a with defers := ds' } : Act).put o.dst v') := by
  have hjl : j < ss.length := (List.getElem?_eq_some_iff.1 hs).1
  obtain ⟨_, _, _, _, ht1, ht2⟩ := put_tv hput
  refine ⟨by rw [put_defers]; exact hdef, by rw [tmps_put_size]; exact h.size, ?_, ?_⟩
  · intro k s1 o1 d hs1 ho1 hd1 hdst
    rcases (hD' _).1 hd1 with h1 | h1
    · have hne : o.dst ≠ some d := fun hh => by
        have := hp.one hs hs1 ho ho1 hh hdst
        subst this
        rw [hs] at hs1; cases hs1
        exact hD h1
      rw [tmps_put_ne hne]
      exact (h.set k s1 o1 d hs1 ho1 h1 hdst).up hsub hag
    · have := hp.ne hs1 hs h1
      subst this
      rw [hs] at hs1; cases hs1
      rw [ho] at ho1; cases ho1
      obtain ⟨q1, q2⟩ := ht2 d hdst
      have hnt := (hc.fields hp k (by omega)).1
      rw [hdst, tmps_put_eq (by rw [h.size, ← hnt]; exact q2)]
      have : tv F (k + 1) d = v := by unfold tv; rw [q1]; rfl
      rw [this]
      exact hv
  · intro d hd
    have hne : o.dst ≠ some d := hd j s o hs ho ((hD' _).2 (.inr rfl))
    rw [tmps_put_ne hne]
    exact (h.unset d fun k s1 o1 a b c => hd k s1 o1 a b ((hD' _).2 (.inl c))).up hsub hag
theorem FrmOk.adopt {D : Nat → Prop} {c : Nat} {e : Env} {a : Act} {s : PStep} (hc : Canon P cc ops ss F M H) (hp : Planned P ops ss) (h : FrmOk ops F M ss D c e a)
    (hs : ss[c]? = some s) (he : s.c ≠ .effect) (hsub : ∀ B, Named M ss D c B → Named M ss D (c + 1) B) : FrmOk ops F M ss D (c + 1) e a := by
  have hcl : c < ss.length := (List.getElem?_eq_some_iff.1 hs).1
  obtain ⟨o, ho, hk, hw, is⟩ := hc.is hp hs
  obtain ⟨v, ds, hput, hds⟩ := is.put
  obtain ⟨_, _, _, hd, _, _⟩ := put_tv hput
  refine ⟨?_, h.size, fun j s1 o1 d a b c dd => (h.set j s1 o1 d a b c dd).up hsub (Ag.refl _ _), fun d hd => (h.unset d hd).up hsub (Ag.refl _ _)⟩
  rw [hd, hds he]
  exact h.defs.mono (fun _ _ => ⟨rfl, rfl, rfl⟩) (hc.next1 hp hcl)
theorem adopt_to {D : Nat → Prop} {c : Nat} {e0 e : Env} {w0 w : World} {a : Act} (hc : Canon P cc ops ss F M H) (hp : Planned P ops ss) (hm : MemOk e0 w0 M ss D c e w) (hf : FrmOk ops F M ss D c e a) :
    ∀ j, c ≤ j → j ≤ ss.length → (∀ (k : Nat) (s : PStep), c ≤ k → k < j → ss[k]? = some s → D s.i ∧ s.c ≠ .effect) → MemOk e0 w0 M ss D j e w ∧ FrmOk ops F M ss D j e a
  | 0, h, _, _ => by have : c = 0 := by omega
                     subst this; exact ⟨hm, hf⟩
  | j + 1, h, hj, hk => by
    rcases Nat.lt_or_ge c (j + 1) with h1 | h1
    · obtain ⟨hm1, hf1⟩ := adopt_to hc hp hm hf j (by omega) (by omega) fun k s a b => hk k s a (by omega)
      have hs := List.getElem?_eq_getElem (show j < ss.length by omega)
      obtain ⟨hD, he⟩ := hk j _ (by omega) (by omega) hs
      obtain ⟨hm2, hn⟩ := hm1.adopt hc hp hs hD he
      exact ⟨hm2, hf1.adopt hc hp hs he hn⟩
    · have : c = j + 1 := by omega
      subst this; exact ⟨hm, hf⟩
structure DoneOk (ops : Array Oper) (ss : List PStep) (D : Nat → Prop) (c : Nat) : Prop where
  le : c ≤ ss.length
  below : ∀ (j : Nat) (s : PStep), j < c → ss[j]? = some s → D s.i
  above : ∀ (j : Nat) (s : PStep), c ≤ j → ss[j]? = some s → s.c = .effect → ¬ D s.i
  closed : Closed ops D
theorem looks_rel {D : Nat → Prop} {c j : Nat} {e : Env} {a : Act} {s : PStep} {o : Oper} (hc : Canon P cc ops ss F M H) (hp : Planned P ops ss) (hf : FrmOk ops F M ss D c e a) (hd : DoneOk ops ss D c)
    (hs : ss[j]? = some s) (ho : ops[s.i]? = some o) (hD : ¬ D s.i) (hm : Met ops D s.i) (t : Tmp) (ht : t ∈ looksAt ops o) :
    VRq e (Named M ss D c) (M ss.length).next (tv F j t) (a.tmps.getD t undef) := by
  have hjl : j < ss.length := (List.getElem?_eq_some_iff.1 hs).1
  by_cases hex : ∃ (j' : Nat) (s' : PStep) (o' : Oper), ss[j']? = some s' ∧ ops[s'.i]? = some o' ∧ o'.dst = some t
  · obtain ⟨j', s', o', hs', ho', hdst⟩ := hex
    have huniq : ∀ (k : Nat) (s1 : PStep) (o1 : Oper), ss[k]? = some s1 → ops[s1.i]? = some o1 → o1.dst = some t → k = j' := fun k s1 o1 a b c => hp.one a hs' b ho' c hdst
    have hun : ¬ D s'.i → j ≤ j' → VRq e (Named M ss D c) (M ss.length).next (tv F j t) (a.tmps.getD t undef) := by
      intro hnD hle
      rw [hc.tv_same hp (i := 0) j (by omega) (by omega) fun k s1 o1 _ hk a b c => by have := huniq k s1 o1 a b c; omega]
      refine hf.unset t fun k s1 o1 hk hk1 hkD hkd => ?_
      have := huniq k s1 o1 hk hk1 hkd
      subst this
      rw [hs'] at hk; cases hk
      exact hnD hkD
    rcases Nat.lt_trichotomy j' j with h | h | h
    · have hb := (hp.pairIs h hs' hs ho' ho).reads t hdst ht
      have hD' := hd.closed.bef hb hm
      have := hf.set j' s' o' t hs' ho' hD' hdst
      rw [hc.tv_same hp (i := j' + 1) j (by omega) (by omega) fun k s1 o1 hk1 hk a b c => by have := huniq k s1 o1 a b c; omega]
      exact this
    · subst h
      rw [hs] at hs'; cases hs'
      exact hun hD (Nat.le_refl _)
    · have hb := (hp.pairIs h hs hs' ho ho').writes t hdst ht
      refine hun (fun hD' => hD (hd.closed.bef hb (hd.closed _ hD'))) (by omega)
  · have hno : ∀ (k : Nat) (s1 : PStep) (o1 : Oper), ss[k]? = some s1 → ops[s1.i]? = some o1 → o1.dst ≠ some t := fun k s1 o1 a b c => hex ⟨k, s1, o1, a, b, c⟩
    rw [hc.tv_same hp (i := 0) j (by omega) (by omega) fun k s1 o1 _ _ a b => hno k s1 o1 a b]
    exact hf.unset t fun k s1 o1 a b _ => hno k s1 o1 a b
theorem ev_tv (j : Nat) (t : Tmp) : ev (F j) (.tmp t) = tv F j t := by
  simp only [ev, tv]
  cases (F j).t.get t <;> rfl
theorem opnds_rel {D : Nat → Prop} {c j : Nat} {e : Env} {a : Act} {s : PStep} {o : Oper} (hc : Canon P cc ops ss F M H) (hp : Planned P ops ss) (hf : FrmOk ops F M ss D c e a) (hd : DoneOk ops ss D c)
    (hg : Glob e (M c)) (hs : ss[j]? = some s) (ho : ops[s.i]? = some o) (hD : ¬ D s.i) (hm : Met ops D s.i) (hok : opOk o = true) (x : Operand) (hx : x ∈ o.op.operands) :
    VRq e (Named M ss D c) (M ss.length).next (ev (F j) x) (a.eval x) := by
  have hjl : j < ss.length := (List.getElem?_eq_some_iff.1 hs).1
  cases x with
  | tmp t =>
    rw [ev_tv]
    exact looks_rel hc hp hf hd hs ho hD hm t (by
      unfold looksAt tmpsOf
      refine List.mem_append_left _ (List.mem_filterMap.2 ⟨.tmp t, by simpa using hx, rfl⟩))
  | const v =>
    intro e'' he
    simp only [opOk, Array.all_eq_true_iff_forall_mem] at hok
    exact .flat (hok _ hx)
  | global g =>
    intro e'' he
    simp only [opOk, Array.all_eq_true_iff_forall_mem] at hok
    have hgl := hok _ hx
    simp only [opndOk, Nat.blt_eq] at hgl
    have hlt : g < (M c).next := Nat.lt_of_lt_of_le hgl hg.1
    have h1 := hc.next hp (i := c) ss.length hd.le (Nat.le_refl _)
    have hpv := VR.ptr (e := e'') (n := (M ss.length).next) (B := g) (o := 0) (by omega)
    obtain ⟨q1, q2, _⟩ := he g (.inl hlt)
    rw [q1, q2, (hg.2 g hgl).1, (hg.2 g hgl).2] at hpv
    exact hpv
  | func f => exact fun e'' he => .flat rfl
theorem readAll_spec {fr : Fr} {o : Oper} : ∀ (L : List AS) (v : Value), readAll P fr o L = some v → ∀ (q : Nat) (A : AS), L[q]? = some A → opsUnder fr o A.next = true ∧ ∃ A1, aExec P (ev fr) o A = some (.value v, A1)
  | [], v, h, _, _, _ => by simp [readAll] at h
  | B :: L, v, h, q, A, hq => by
    unfold readAll at h
    split at h
    · rename_i hu
      split at h
      · rename_i u A1 hx
        split at h
        · simp only [Option.some.injEq] at h
          subst h
          cases q with
          | zero => simp only [List.getElem?_cons_zero, Option.some.injEq] at hq; subst hq; exact ⟨hu, A1, hx⟩
          | succ q => simp at hq
        · split at h
          · rename_i u' hr
            split at h
            · rename_i heq
              simp only [Option.some.injEq] at h
              subst h
              have hvu := eqV_eq 4 _ _ heq
              cases q with
              | zero => simp only [List.getElem?_cons_zero, Option.some.injEq] at hq; subst hq; exact ⟨hu, A1, by rw [hx, hvu]⟩
              | succ q => exact readAll_spec L _ hr q A (by simpa using hq)
            · cases h
          · cases h
      · cases h
    · cases h
theorem Canon.snap (hc : Canon P cc ops ss F M H) (hp : Planned P ops ss) {c : Nat} (hh : ∃ r, H c = M c :: r) : ∀ j, c ≤ j → j ≤ ss.length →
    (H j)[(((ss.take j).drop c).filter fun s' => decide (s'.c = .effect)).length]? = some (M c)
  | 0, h, _ => by
    have : c = 0 := by omega
    subst this
    obtain ⟨r, hr⟩ := hh
    simp [hr]
  | j + 1, h, hj => by
    rcases Nat.lt_or_ge c (j + 1) with h1 | h1
    · have ih := hc.snap hp hh j (by omega) (by omega)
      have hs := List.getElem?_eq_getElem (show j < ss.length by omega)
      obtain ⟨o, ho, hk, hw, is⟩ := hc.is hp hs
      have htake : (ss.take (j + 1)).drop c = (ss.take j).drop c ++ [ss[j]] := by
        rw [List.take_succ_eq_append_getElem (by omega), List.drop_append_of_le_length (by simp; omega)]
      rw [htake, List.filter_append, List.length_append]
      by_cases he : ss[j].c = .effect
      · rw [(is.eff he).1]
        simp [he, ih]
      · rw [(is.mem he).1]
        simpa [he] using ih
    · have : c = j + 1 := by omega
      subst this
      obtain ⟨r, hr⟩ := hh
      have : (ss.take (j + 1)).drop (j + 1) = [] := by simp
      rw [this]; simp [hr]
theorem ptr_inv {n m : Nat} {e : Env} {v' : Value} (h : VR e m (.pointer (some ⟨n, 0, none⟩)) v') : v' = .pointer (some ⟨e.loc n, e.off n, none⟩) := by
  cases h with
  | flat hx => simp [flat, scalar] at hx
  | ptr _ => rfl
theorem slice_inv {n m l c : Nat} {e : Env} {v' : Value} (h : VR e m (.slice (some ⟨n, 0, none⟩) l c) v') : v' = .slice (some ⟨e.loc n, e.off n, none⟩) l (c + e.ext n) := by
  cases h with
  | flat hx => simp [flat, scalar] at hx
  | slice _ => rfl
theorem map_inv {n m : Nat} {e : Env} {v' : Value} (h : VR e m (.map (some n)) v') : v' = .map (some (e.loc n)) := by
  cases h with
  | flat hx => simp [flat, scalar] at hx
  | map _ => rfl
theorem leaf_getAt {α : Type} : ∀ (p : List Bool), (Trie.leaf : Trie α).getAt p = none
  | [] => rfl
  | b :: p => leaf_getAt p
theorem fake_inv (e : Env) (w : World) (n ro : Nat) (h : ro ≤ n) : Inv e { heap := .leaf, next := n, ro := ro } w where
  obj := fun B o hB => by simp [AS.get, Trie.get, leaf_getAt] at hB
  dom := fun B o hB => by simp [AS.get, Trie.get, leaf_getAt] at hB
  inj := fun B B' o o' hB => by simp [AS.get, Trie.get, leaf_getAt] at hB
  le := h
theorem fake_get (n ro B : Nat) : AS.get { heap := .leaf, next := n, ro := ro } B = none := by simp [AS.get, Trie.get, leaf_getAt]
theorem lay_run {e : Env} {w : World} {p p' : Nat → Prop} {n ro N : Nat} {a : Act} {fr : Fr} {o : Oper} {v : Value} {obj : AObj} (hro : ro ≤ n)
    (hops : ∀ x ∈ o.op.operands, VRq e p N (ev fr x) (a.eval x)) (hu : opsUnder fr o n = true) (hf : Fresh n v obj)
    (hx : ∀ A2 : AS, A2.next = n → aExec P (ev fr) o A2 = some (.value v, A2.new obj)) (hp : ∀ B, p B → p' B) (hpn : ¬ p n) (hpn' : p' n) :
    ∃ e1 w' v', (execOp a.eval o).run P w = .ok (.value v') w' ∧ (∀ B, B ≠ n → e1.loc B = e.loc B ∧ e1.off B = e.off B ∧ e1.ext B = e.ext B) ∧
      (∀ e'', Ag e1 e'' p' → ObjAt e'' (n + 1) ro w' n obj ∧ VR e'' (n + 1) v v') ∧ w.heap.size ≤ e1.loc n ∧ (∀ b, b < w.heap.size → w'.heap[b]? = w.heap[b]?) ∧
      w.heap.size ≤ w'.heap.size ∧ w'.tape = w.tape ∧ w'.os = w.os ∧ w'.output = w.output := by
  have hex : ∀ e'', Ag e e'' p → NRel P e'' { heap := .leaf, next := n, ro := ro } w (execOp a.eval o) (.value v) (AS.new { heap := .leaf, next := n, ro := ro } obj) := by
    intro e'' he
    exact exec_sound' (fake_inv e'' w n ro hro) (fun x hxx => under_lower 4 _ _ (opsUnder_spec hu x hxx) (hops x hxx e'' he)) (hx _ rfl)
  obtain ⟨e1, w', v', hrun, hi, hs, hv⟩ := hex e (Ag.refl _ _)
  have hgn : (AS.new { heap := .leaf, next := n, ro := ro } obj).get n = some obj := by rw [AS.get_new]; simp
  have henv : ∀ B, B ≠ n → e1.loc B = e.loc B ∧ e1.off B = e.off B ∧ e1.ext B = e.ext B := fun B hB => hs.env B (by
    have : (AS.new { heap := .leaf, next := n, ro := ro } obj).next = n + 1 := rfl
    rw [this]
    show B < n ∨ n + 1 ≤ B
    omega)
  refine ⟨e1, w', v', hrun, henv, ?_, ?_, ?_, hs.size, hs.tape, hs.os, hs.output⟩
  · intro e'' he
    have hag : Ag e e'' p := fun B hB => by
      obtain ⟨a1, a2, a3⟩ := he B (hp B hB)
      obtain ⟨b1, b2, b3⟩ := henv B (fun h => hpn (h ▸ hB))
      exact ⟨a1.trans b1, a2.trans b2, a3.trans b3⟩
    obtain ⟨e3, w3, v3, hrun3, hi3, hs3, hv3⟩ := hex e'' hag
    rw [hrun] at hrun3
    simp only [Result.ok.injEq, Next.value.injEq] at hrun3
    obtain ⟨rfl, rfl⟩ := hrun3
    have henv3 : ∀ B, B ≠ n → e3.loc B = e''.loc B ∧ e3.off B = e''.off B ∧ e3.ext B = e''.ext B := fun B hB => hs3.env B (by
      have : (AS.new { heap := .leaf, next := n, ro := ro } obj).next = n + 1 := rfl
      rw [this]
      show B < n ∨ n + 1 ≤ B
      omega)
    have ho3 : ObjAt e3 (n + 1) ro w' n obj := hi3.obj n obj hgn
    have ho1 : ObjAt e1 (n + 1) ro w' n obj := hi.obj n obj hgn
    have hv1 : VR e1 (n + 1) v v' := hv
    have hv3 : VR e3 (n + 1) v v' := hv3
    obtain ⟨a1, a2, a3⟩ := he n hpn'
    have cellsCase : ∀ cs z, obj = .cells cs z false → e3.loc n = e1.loc n → e3.off n = e1.off n → ObjAt e'' (n + 1) ro w' n obj ∧ VR e'' (n + 1) v v' := by
      intro cs z hobj h1 h2
      rw [hobj] at ho1 ho3
      obtain ⟨_, _, _, _, x1, _⟩ := ho1
      have ho3' := ho3
      obtain ⟨_, _, _, _, x3, _⟩ := ho3'
      have hagr : e3.agrees e'' (n + 1) := fun B hB => by
        by_cases hBn : B = n
        · subst hBn
          exact ⟨a1.trans h1.symm, a2.trans h2.symm, (a3.trans (x1 rfl)).trans (x3 rfl).symm⟩
        · obtain ⟨b1, b2, b3⟩ := henv3 B hBn
          exact ⟨b1.symm, b2.symm, b3.symm⟩
      refine ⟨?_, hv3.mono hagr (Nat.le_refl _)⟩
      rw [hobj]
      refine ho3.mono (Nat.lt_succ_self _) hagr (Nat.le_refl _) rfl
    cases hf with
    | ptr =>
      have h1 := ptr_inv hv1
      have h3 := ptr_inv hv3
      rw [h1] at h3
      simp only [Value.pointer.injEq, Option.some.injEq, Addr.mk.injEq] at h3
      exact cellsCase _ _ rfl h3.1.symm h3.2.1.symm
    | slice =>
      have h1 := slice_inv hv1
      have h3 := slice_inv hv3
      rw [h1] at h3
      simp only [Value.slice.injEq, Option.some.injEq, Addr.mk.injEq] at h3
      exact cellsCase _ _ rfl h3.1.1.symm h3.1.2.1.symm
    | map =>
      have h1 := map_inv hv1
      have h3 := map_inv hv3
      have hl : e''.loc n = e3.loc n := by
        rw [h1] at h3
        simp only [Value.map.injEq, Option.some.injEq] at h3
        exact a1.trans h3
      refine ⟨?_, ?_⟩
      · obtain ⟨ces, q1, q2, q3⟩ := ho3
        exact ⟨ces, by rw [hl]; exact q1, q2, fun i en hh => by simp at hh⟩
      · rw [h3, ← hl]
        exact .map (Nat.lt_succ_self _)
  · rcases hs.locs n obj hgn hro with h | ⟨C, o', hC, _, _⟩
    · exact h
    · rw [fake_get] at hC; cases hC
  · intro b hb
    exact hs.keep b hb fun C o' hC => by rw [fake_get] at hC; cases hC
end Go.Dp
namespace Go.Dp
open Go
variable {P : Program} {cc : Calls2} {ops : Array Oper} {ss : List PStep} {F : Nat → Fr} {M : Nat → AS} {H : Nat → List AS}
theorem DoneOk.add {D : Nat → Prop} {c j : Nat} {s : PStep} (hp : Planned P ops ss) (h : DoneOk ops ss D c) (hs : ss[j]? = some s) (he : s.c ≠ .effect) (hm : Met ops D s.i) :
    DoneOk ops ss (fun i => D i ∨ i = s.i) c where
  le := h.le
  below := fun k s' hk hs' => .inl (h.below k s' hk hs')
  above := fun k s' hk hs' hc' hD => by
    rcases hD with hD | hD
    · exact h.above k s' hk hs' hc' hD
    · have := hp.ne hs' hs hD
      subst this
      rw [hs] at hs'; cases hs'
      exact he hc'
  closed := h.closed.add hm
theorem draw_go (hcc : CallsOk P cc) (hc : Canon P cc ops ss F M H) (hp : Planned P ops ss) (h0 : ∀ k, (F 0).nt ≤ k → (F 0).t.get k = none) {e0 : Env} {w0 : World} {b : Frame} (hfit : Fits (F 0) b)
    (k : List Item) (cs : List Frame) {D : Nat → Prop} {l : List Nat} (hsch : Sched ops D l) :
    ∀ {c : Nat} {e : Env} {w : World} {a : Act}, DoneOk ops ss D c → (∃ r, H c = M c :: r) → MemOk e0 w0 M ss D c e w → FrmOk ops F M ss D c e a →
    ∃ e' w' a', Steps P (lone (b.atR a (.inRegion ops l :: k)) cs w) (lone (b.atR a' k) cs w') ∧ St e' (M ss.length) w' (F ss.length) a' ∧ Step e0 (M 0) w0 e' (M ss.length) w' := by
  induction hsch with
  | @done D hall =>
    intro c e w a hd hh hm hf
    have hin : ∀ (j : Nat) (s : PStep), ss[j]? = some s → D s.i := fun j s hs => by
      obtain ⟨o, ho, _⟩ := hp.kind j s hs
      exact hall _ (Array.getElem?_eq_some_iff.1 ho).1
    obtain ⟨hm', hf'⟩ := adopt_to hc hp hm hf ss.length hd.le (Nat.le_refl _) fun j s h1 h2 hs => ⟨hin j s hs, fun he => hd.above j s h1 hs he (hin j s hs)⟩
    refine ⟨e, w, a, .one stepR_region_end, ⟨hm'.inv, hm'.glob, ⟨?_, hf'.defs⟩⟩, ?_⟩
    · have hnt := (hc.fields hp ss.length (Nat.le_refl _)).1
      refine ⟨hf'.size.trans hnt.symm, fun t => ?_, fun t ht => hc.above hp h0 _ (Nat.le_refl _) t (by rw [← hnt]; exact ht)⟩
      by_cases hex : ∃ (j' : Nat) (s' : PStep) (o' : Oper), ss[j']? = some s' ∧ ops[s'.i]? = some o' ∧ o'.dst = some t
      · obtain ⟨j', s', o', hs', ho', hdst⟩ := hex
        have hjl : j' < ss.length := (List.getElem?_eq_some_iff.1 hs').1
        have := (hf'.set j' s' o' t hs' ho' (hin j' s' hs') hdst).self
        rw [← hc.tv_same hp (i := j' + 1) ss.length (by omega) (Nat.le_refl _) fun k s1 o1 hk1 hk a b c => by have := hp.one a hs' b ho' c hdst; omega] at this
        exact this
      · have := (hf'.unset t fun k s1 o1 a b _ c => hex ⟨k, s1, o1, a, b, c⟩).self
        rw [← hc.tv_same hp (i := 0) ss.length (by omega) (Nat.le_refl _) fun k s1 o1 _ _ a b c => hex ⟨k, s1, o1, a, b, c⟩] at this
        exact this
    · exact ⟨hm'.env, hc.next hp _ (Nat.zero_le _) (Nat.le_refl _), hm'.ro, hm'.fixed, hm'.locs, hm'.size, hm'.keep, hm'.tape, hm'.os, hm'.output⟩
  | @step D i l hi hn hmet ht ih =>
    intro c e w a hd hh hm hf
    obtain ⟨j, s, hs, rfl⟩ := hp.all i hi
    have hjl : j < ss.length := (List.getElem?_eq_some_iff.1 hs).1
    have hcj : c ≤ j := by
      rcases Nat.lt_or_ge j c with h | h
      · exact absurd (hd.below j s h hs) hn
      · exact h
    obtain ⟨o, ho, hk, how, is⟩ := hc.is hp hs
    have hnt := (hc.fields hp j (by omega)).1
    have hwant : Region.wanted o (yielded ops a.tmps) = Region.wanted o (yieldedA ops (F j)) :=
      wanted_same (n := (M ss.length).next) (hf.size.trans hnt.symm) (fun t h => hc.above hp h0 j (by omega) t (by rw [← hnt]; exact h))
        (fun t htm => (looks_rel hc hp hf hd hs ho hn hmet t htm).self)
    have hfin : ∀ v, (b.atR a (.inRegion ops (s.i :: l) :: k)).finish v = b.atR (a.put o.dst v) (.inRegion ops l :: k) := fun v => by rw [Frame.finish_atR, ho]; rfl
    have hnxt := hc.next hp (i := c) j hcj (by omega)
    have hnxl := hc.next hp (i := j) ss.length (by omega) (Nat.le_refl _)
    have hskipStep : Region.wanted o (yieldedA ops (F j)) = false →
        Steps P (lone (b.atR a (.inRegion ops (s.i :: l) :: k)) cs w) (lone (b.atR (a.put o.dst undef) (.inRegion ops l :: k)) cs w) := by
      intro hw
      refine .one ?_
      have := stepR_op_skip (P := P) (b := b) (a := a) (k := k) (cs := cs) (w := w) (ops := ops) (i := s.i) (rest := l) (by simp [ho, hwant, hw])
      rw [ho] at this
      exact this
    have stay : ∀ {v v' : Value} {w' : World}, s.c ≠ .effect → M (j + 1) = M j → ({ F j with defers := (F j).defers } : Fr).put o.dst v = some (F (j + 1)) →
        VRq e (Named M ss D c) (M ss.length).next v v' → Inv e (M c) w' → Step e (M c) w e (M c) w' →
        Steps P (lone (b.atR a (.inRegion ops (s.i :: l) :: k)) cs w) (lone (b.atR (a.put o.dst v') (.inRegion ops l :: k)) cs w') →
        ∃ e' w' a', Steps P (lone (b.atR a (.inRegion ops (s.i :: l) :: k)) cs w) (lone (b.atR a' k) cs w') ∧ St e' (M ss.length) w' (F ss.length) a' ∧ Step e0 (M 0) w0 e' (M ss.length) w' := by
      intro v v' w' he hM hput hv hi' hst hsteps
      obtain ⟨hm', hN⟩ := hm.stay hp hcj hs hM hi' hst
      have hsub : ∀ B, Named M ss D c B → Named M ss (fun i => D i ∨ i = s.i) c B := fun B hB => (hN B).1 hB
      have hf' := hf.put (D' := fun i => D i ∨ i = s.i) (c' := c) (e' := e) (ds' := a.defers) hc hp hs ho hn (fun i => Iff.rfl) hput (hv.up hsub (Ag.refl _ _)) hsub (Ag.refl _ _) hf.defs
      obtain ⟨e', w'', a', hs1, hst1, hst2⟩ := ih (hd.add hp hs he hmet) hh hm' hf'
      exact ⟨e', w'', a', hsteps.trans hs1, hst1, hst2⟩
    have turn : s.c = .effect → MemOk e0 w0 M ss D j e w ∧ FrmOk ops F M ss D j e a := by
      intro he
      refine adopt_to hc hp hm hf j hcj (by omega) fun q s' h1 h2 hs' => ?_
      obtain ⟨o', ho', _⟩ := hp.kind q s' hs'
      have hb := (hp.pairIs h2 hs' hs ho' ho).eff he
      have hD := hd.closed.bef hb hmet
      exact ⟨hD, fun he' => hd.above q s' h1 hs' he' hD⟩
    have turned : ∀ {v v' : Value} {ds ds' : List Deferred} {e' : Env} {w' : World}, s.c = .effect → MemOk e0 w0 M ss D j e w → FrmOk ops F M ss D j e a → ({ F j with defers := ds } : Fr).put o.dst v = some (F (j + 1)) →
        VR e' (M (j + 1)).next v v' → DefsRel e' (M (j + 1)).next ds ds' → Inv e' (M (j + 1)) w' → Step e (M j) w e' (M (j + 1)) w' →
        Steps P (lone (b.atR a (.inRegion ops (s.i :: l) :: k)) cs w) (lone (b.atR (({ a with defers := ds' } : Act).put o.dst v') (.inRegion ops l :: k)) cs w') →
        ∃ e' w' a', Steps P (lone (b.atR a (.inRegion ops (s.i :: l) :: k)) cs w) (lone (b.atR a' k) cs w') ∧ St e' (M ss.length) w' (F ss.length) a' ∧ Step e0 (M 0) w0 e' (M ss.length) w' := by
      intro v v' ds ds' e' w' he hmj hfj hput hv hdef hi' hst hsteps
      obtain ⟨hm', hsub, hag⟩ := hmj.turn hc hp hs hn he hi' hst
      obtain ⟨_, _, _, hdd, _, _⟩ := put_tv hput
      have hle := hc.next hp (i := j + 1) ss.length (by omega) (Nat.le_refl _)
      have hf' := hfj.put (D' := fun i => D i ∨ i = s.i) (c' := j + 1) (e' := e') (ds' := ds') hc hp hs ho hn (fun i => Iff.rfl) hput (.of hv (fun B hB => .inl hB) hle) hsub hag (by rw [hdd]; exact hdef)
      have hd' : DoneOk ops ss (fun i => D i ∨ i = s.i) (j + 1) := by
        refine ⟨by omega, ?_, ?_, hd.closed.add hmet⟩
        · intro q s' hq hs'
          by_cases hqj : q = j
          · subst hqj
            rw [hs] at hs'; cases hs'
            exact .inr rfl
          · obtain ⟨o', ho', _⟩ := hp.kind q s' hs'
            exact .inl (hd.closed.bef ((hp.pairIs (show q < j by omega) hs' hs ho' ho).eff he) hmet)
        · rintro q s' hq hs' hc' (hD | hD)
          · exact hd.above q s' (by omega) hs' hc' hD
          · have := hp.ne hs' hs hD; omega
      obtain ⟨e'', w'', a', hs1, hst1, hst2⟩ := ih hd' ⟨_, (is.eff he).1⟩ hm' hf'
      exact ⟨e'', w'', a', hsteps.trans hs1, hst1, hst2⟩
    have hwfalse : Region.wanted o (yieldedA ops (F j)) = true → Region.wanted o (yielded ops a.tmps) = true := fun h => hwant.trans h
    have hops : opOk o = true → ∀ x ∈ o.op.operands, VRq e (Named M ss D c) (M ss.length).next (ev (F j) x) (a.eval x) :=
      fun hok x hx => opnds_rel hc hp hf hd hm.glob hs ho hn hmet hok x hx
    have hflatq : VRq e (Named M ss D c) (M ss.length).next undef undef := fun e'' _ => .flat rfl
    generalize hM1 : M (j + 1) = M1 at how
    generalize hH1 : H (j + 1) = H1 at how
    cases how with
    | skip hw hput he => exact stay he hM1 hput hflatq hm.inv (Step.refl _ _ _) (hskipStep hw)
    | skipE hw hput he =>
      obtain ⟨hmj, hfj⟩ := turn he
      refine turned (ds := (F j).defers) (ds' := a.defers) he hmj hfj hput (.flat rfl) ?_ (by rw [hM1]; exact hmj.inv) (by rw [hM1]; exact Step.refl _ _ _) (hskipStep hw)
      rw [hM1]; exact hfj.defs
    | @pure v A1 hw hok hkind hx hput =>
      obtain ⟨hA1, _, hany⟩ := exec_pure (hk.trans hkind) hx
      have hro : (M c).ro ≤ (M ss.length).next := by have := hm.inv.le; omega
      have hex := exec_sound' (P := P) (ρ' := a.eval) (fake_inv e w (M ss.length).next (M c).ro hro) (fun x hx => (hops hok x hx).self) (hany _)
      obtain ⟨e1, w', v', hrun, hi1, hs1, hv1⟩ := hex
      have hkeep : ∀ q, q < w.heap.size → w'.heap[q]? = w.heap[q]? := fun q hq => hs1.keep q hq fun C o' hC => by rw [fake_get] at hC; cases hC
      have hvq : VRq e (Named M ss D c) (M ss.length).next v v' := by
        intro e'' he''
        have hex' := exec_sound' (P := P) (ρ' := a.eval) (fake_inv e'' w (M ss.length).next (M c).ro hro) (fun x hx => hops hok x hx e'' he'') (hany _)
        obtain ⟨e3, w3, v3, hrun3, hi3, hs3, hv3⟩ := hex'
        rw [hrun] at hrun3
        simp only [Result.ok.injEq, Next.value.injEq] at hrun3
        obtain ⟨rfl, rfl⟩ := hrun3
        refine hv3.mono (fun B hB => ?_) (Nat.le_refl _)
        obtain ⟨q1, q2, q3⟩ := hs3.env B (.inl hB)
        exact ⟨q1.symm, q2.symm, q3.symm⟩
      refine stay (w' := w') (by rw [hkind]; decide) hM1 hput hvq (hm.inv.frame (fun _ _ => ⟨rfl, rfl, rfl⟩) hkeep) ?_ (.one (apply_value ho (hwfalse hw) (op_notdefer hx (by simp)) hrun))
      exact ⟨fun _ _ => ⟨rfl, rfl, rfl⟩, Nat.le_refl _, rfl, fun _ _ => rfl, fun B o' hB hr => .inr ⟨B, o', hB, hr, rfl⟩, hs1.size, fun q hq _ => hkeep q hq, hs1.tape, hs1.os, hs1.output⟩
    | @read v hw hok hkind hx hput =>
      have hsnap := hc.snap hp hh j hcj (by omega)
      have hlag := hp.lag j s hs hkind
      have hcnt : (((ss.take j).drop c).filter fun s' => decide (s'.c = .effect)).length ≤ s.lag := by
        refine Nat.le_trans ?_ hlag
        have heq : (((ss.take j).drop c).filter fun s' => decide (s'.c = .effect)) = (((ss.take j).drop c).filter fun s' => decide (s'.c = .effect) && !(bef (Region.before ops) s.i s'.i)) := by
          apply List.filter_congr
          intro s' hs'
          obtain ⟨q, hq⟩ := List.getElem?_of_mem hs'
          rw [List.getElem?_drop] at hq
          have hqj : c + q < j := by
            rcases Nat.lt_or_ge (c + q) j with h | h
            · exact h
            · rw [List.getElem?_eq_none (Nat.le_trans (List.length_take_le j ss) h)] at hq; cases hq
          rw [List.getElem?_take_of_lt hqj] at hq
          by_cases he : s'.c = .effect
          · have hnb : bef (Region.before ops) s.i s'.i = false := by
              cases hb : bef (Region.before ops) s.i s'.i with
              | false => rfl
              | true => exact absurd (hd.closed.bef hb hmet) (hd.above _ s' (by omega) hq he)
            simp [he, hnb]
          · simp [he]
        rw [heq]
        exact ((List.drop_sublist c (ss.take j)).filter _).length_le
      obtain ⟨hu, A1, hex⟩ := readAll_spec _ v hx (((ss.take j).drop c).filter fun s' => decide (s'.c = .effect)).length (M c) (by rw [List.getElem?_take_of_lt (by omega)]; exact hsnap)
      obtain ⟨hA1, _⟩ := exec_read (hk.trans hkind) hex
      subst hA1
      obtain ⟨e1, w', v', hrun, hi1, hs1, hv1⟩ := exec_sound' (P := P) (ρ' := a.eval) hm.inv (fun x hx => under_lower 4 _ _ (opsUnder_spec hu x hx) (hops hok x hx).self) hex
      have hee : e1 = e := by
        have h1 : ∀ B, e1.loc B = e.loc B ∧ e1.off B = e.off B ∧ e1.ext B = e.ext B := fun B => hs1.env B (Nat.lt_or_ge _ _)
        cases e1; cases e
        simp only [Env.mk.injEq]
        exact ⟨funext fun B => (h1 B).1, funext fun B => (h1 B).2.1, funext fun B => (h1 B).2.2⟩
      subst hee
      have hcl := hc.next hp (i := c) ss.length hd.le (Nat.le_refl _)
      exact stay (w' := w') (by rw [hkind]; decide) hM1 hput (.of hv1 (fun B hB => .inl hB) hcl) hi1 hs1 (.one (apply_value ho (hwfalse hw) (op_notdefer hex (by simp)) hrun))
    | @alloc v _ hw hok hkind hu hx hput =>
      obtain ⟨v0, obj, hv0, hA, hfr, hany⟩ := exec_alloc (hk.trans hkind) hx
      simp only [ANext.value.injEq] at hv0
      subst hv0
      have he : s.c ≠ .effect := by rw [hkind]; decide
      have hMn : M (j + 1) = (M j).new obj := hM1.trans hA
      have hro : (M 0).ro ≤ (M j).next := by have := hm.inv.le; rw [hm.ro] at this; omega
      have hnew : Named M ss (fun i => D i ∨ i = s.i) c (M j).next := .inr ⟨j, obj, ⟨hcj, ⟨s, hs, .inr rfl, he⟩, hMn⟩, rfl⟩
      have hsub0 : ∀ B, Named M ss D c B → Named M ss (fun i => D i ∨ i = s.i) c B := by
        rintro B (hB | ⟨q, ob, ⟨h1, ⟨s', hs', hD', hc'⟩, h3⟩, rfl⟩)
        · exact .inl hB
        · exact .inr ⟨q, ob, ⟨h1, ⟨s', hs', .inl hD', hc'⟩, h3⟩, rfl⟩
      have hnot : ¬ Named M ss D c (M j).next := by
        rintro (hB | ⟨q, ob, ⟨h1, ⟨s', hs', hD', hc'⟩, h3⟩, hB⟩)
        · omega
        · have hql : q < ss.length := (List.getElem?_eq_some_iff.1 hs').1
          have hne : q ≠ j := fun hqj => by subst hqj; rw [hs] at hs'; cases hs'; exact hn hD'
          have hnq : (M (q + 1)).next = (M q).next + 1 := by rw [h3]; rfl
          have hnj : (M (j + 1)).next = (M j).next + 1 := by rw [hMn]; rfl
          rcases Nat.lt_or_ge q j with hlt | hge
          · have := hc.next hp (i := q + 1) j (by omega) (by omega); omega
          · have := hc.next hp (i := j + 1) q (by omega) (by omega); omega
      obtain ⟨e1, w', v', hrun, henv, hobj, hloc, hkeep, hsz, ht', hos, hout⟩ := lay_run (w := w) hro (hops hok) hu hfr hany hsub0 hnot hnew
      obtain ⟨hm', hsub, hag⟩ := hm.lay hc hp hcj hs hn he hMn henv (fun e'' he'' => (hobj e'' he'').1) hloc hkeep hsz ht' hos hout
      have hle := hc.next hp (i := j + 1) ss.length (by omega) (Nat.le_refl _)
      have hnj : (M (j + 1)).next = (M j).next + 1 := by rw [hMn]; rfl
      have hvq : VRq e1 (Named M ss (fun i => D i ∨ i = s.i) c) (M ss.length).next v v' := fun e'' he'' => ((hobj e'' he'').2).mono (fun _ _ => ⟨rfl, rfl, rfl⟩) (by omega)
      have hdef : DefsRel e1 (M c).next (F c).defers a.defers := hf.defs.mono (fun B hB => hag B (.inl hB)) (Nat.le_refl _)
      have hf' := hf.put (D' := fun i => D i ∨ i = s.i) (c' := c) (e' := e1) (ds := (F j).defers) (ds' := a.defers) hc hp hs ho hn (fun i => Iff.rfl) hput hvq hsub hag hdef
      obtain ⟨e', w'', a', hs1, hst1, hst2⟩ := ih (hd.add hp hs he hmet) hh hm' hf'
      exact ⟨e', w'', a', (Steps.one (apply_value ho (hwfalse hw) (op_notdefer hx (by simp)) hrun)).trans hs1, hst1, hst2⟩
    | @effect _ hw hok hkind hu hx hle =>
      obtain ⟨hmj, hfj⟩ := turn hkind
      have hfit' : Fits (F j) b := by
        obtain ⟨_, q2, q3⟩ := hc.fields hp j (by omega)
        exact ⟨by rw [q2]; exact hfit.1, rfl, by rw [q3]; exact hfit.2.2⟩
      obtain ⟨e', w', v, v', ds, ds', hsteps, hi', hst, hv, hput, hdef⟩ := eff_steps (rest := l) hcc hmj.inv hmj.glob (fun x hxx => under_lower 4 _ _ (opsUnder_spec hu x hxx) (hops hok x hxx).self) hw (hwfalse hw)
        hfj.defs hfit' ho hx k cs
      subst hM1
      exact turned hkind hmj hfj hput hv hdef hi' hst hsteps
theorem drawP_ok {pl : Array Oper → Option (List PStep)} (hpl : ∀ ops ss, pl ops = some ss → Planned P ops ss) (hmix : P.follows .mixedOrders = true) (hcc : CallsOk P cc) : DrawOk P (drawP P pl cc) := by
  intro ops fr fr' A A' h e w a b id hst hfit k cs
  unfold drawP at h
  split at h
  · rename_i ss hplan
    have hp := hpl _ _ hplan
    obtain ⟨F, M, H, rfl, rfl, hH, hc, rfl, rfl⟩ := drawGo_canon ss h
    let w1 : World := { w with drawn := w.drawn + 1 }
    have hsch : Sched ops (fun _ => False) (Region.schedule (P.follows .mixedOrders) ops (w.tape w.drawn (.order b.fn id))) := by
      simp only [Region.schedule, hmix, Bool.true_or, if_true]
      exact linearise_sched hp.acyc _
    have hi1 : Inv e (M 0) w1 := hst.inv.frame (fun _ _ => ⟨rfl, rfl, rfl⟩) (fun _ _ => rfl)
    have hnoE : ∀ j obj, ¬ Early M ss (fun _ => False) 0 j obj := fun j obj ⟨_, ⟨s, _, h, _⟩, _⟩ => h
    have hm : MemOk e w1 M ss (fun _ => False) 0 e w1 :=
      ⟨hi1, hst.glob, fun j obj hj => absurd hj (hnoE j obj), fun j obj j' obj' hj => absurd hj (hnoE j obj), fun _ _ => ⟨rfl, rfl, rfl⟩, rfl, fun _ _ => rfl,
        fun B o hB hr => .inr ⟨B, o, hB, hr, rfl⟩, Nat.le_refl _, fun _ _ _ => rfl, rfl, rfl, rfl⟩
    have hle := hc.next hp (i := 0) ss.length (Nat.zero_le _) (Nat.le_refl _)
    have hf : FrmOk ops F M ss (fun _ => False) 0 e a :=
      ⟨hst.fr.defers, hst.fr.tmps.1, fun _ _ _ _ _ _ h => h.elim, fun d _ => .of (hst.fr.tmps.2.1 d) (fun B hB => .inl hB) hle⟩
    have hd : DoneOk ops ss (fun _ => False) 0 := ⟨Nat.zero_le _, fun j s h => by omega, fun _ _ _ _ _ h => h, fun _ h => h.elim⟩
    obtain ⟨e', w', a', hs, hst', hstep⟩ := draw_go hcc hc hp hst.fr.tmps.2.2 hfit k cs hsch hd ⟨[], hH⟩ hm hf
    obtain ⟨q1, q2, q3⟩ := hc.fields hp ss.length (Nat.le_refl _)
    refine ⟨e', w', a', .head stepR_region_draw hs, hst', ?_, q2, q3, q1⟩
    exact ⟨hstep.env, hstep.next, hstep.ro, hstep.fixed, hstep.locs, hstep.size, hstep.keep, hstep.tape, hstep.os, hstep.output⟩
  · cases h
end Go.Dp
