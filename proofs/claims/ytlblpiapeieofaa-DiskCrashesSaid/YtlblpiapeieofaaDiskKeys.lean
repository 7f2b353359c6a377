import Derived.Test.YtlblpiapeieofaaDiskAtom
import Derived.Maps.Own
import Derived.Sort.KeysCollected
/- A disk's map, as the kit's shelf reads it. No program. -/
set_option linter.unusedVariables false
namespace Go.Disk
open Go.Rl Go.WideElems
abbrev unread (H : Type) : Value → Option (DataW H × List MemPlace) := fun _ => some (.nil, [])
theorem rd_rec {H : Type} {P : Program} {k : TypeId} (hk : P.underlying k = some .string) (r : Rec) (hn : r.name.length ≤ maxLen) : rd P k (unread H) ⟨str r.name, .pointer (some ⟨r.ptr, 0, none⟩), r.born⟩ = some (.string r.name, .nil) := by
  simp [rd, keyOf, hk, mapKey, str, hn, ByteArray.size]
theorem keys_own (H : Type) {P : Program} {k : TypeId} (hk : P.underlying k = some .string) {w : World} {b clock : Nat} {d : Dk} {rs : List Rec} (hw : Well rs clock d) (hb : w.heap[b]? = some (.map (ents str (rs.map Rec.ent)) clock)) {n : Nat} (hf : Fits n d) (hn : n ≤ 1048576) :
    ∃ D0 : DataW H, w.ownsMap P k (unread H) b rs.length D0 ∧ Maps.size D0 = rs.length ∧ ∀ ss : List (List UInt8), ss.Perm (strKeys D0) → ss.mergeSort (fun x y => decide (x ≤ y)) = names d.fs ∧ ss.length = (names d.fs).length := by
  have hlen : rs.length = d.fs.length := by simpa using hw.perm.length_eq
  have hle := hf.files
  have hes : (ents str (rs.map Rec.ent)).toList = rs.map fun r => (⟨str r.name, .pointer (some ⟨r.ptr, 0, none⟩), r.born⟩ : MapEntry) := by simp [ents, Rec.ent]
  have hnm : ∀ r ∈ rs, r.name.length ≤ maxLen := fun r hr => by
    have := (hf.named r.fil (hw.perm.mem_iff.1 (List.mem_map.2 ⟨r, hr, rfl⟩))).2
    unfold maxLen
    exact Nat.le_trans this (by decide)
  have hnd : (rs.map (·.name)).Nodup := (hw.names_perm).nodup_iff.2 hf.rising.nodup
  refine ⟨.map (((ents str (rs.map Rec.ent)).toList.map (rg P k (unread H))).foldr DataW.insert []), ⟨_, clock, hb, ⟨?_, ⟨?_, ?_, ?_⟩, ?_⟩, by simp [ents], rfl⟩, ?_, fun ss hss => ?_⟩
  · simp only [ents, List.map_map, List.size_toArray, List.length_map]; unfold maxLen; omega
  · rw [hes]; intro x hx; obtain ⟨r, hr, rfl⟩ := List.mem_map.1 hx; exact hw.old r hr
  · rw [hes, List.map_map]; exact hw.borns
  · rw [hes, List.map_map]
    have : (rs.map ((fun x : MapEntry => x.key) ∘ fun r => (⟨str r.name, .pointer (some ⟨r.ptr, 0, none⟩), r.born⟩ : MapEntry))) = (rs.map (·.name)).map str := by rw [List.map_map]; rfl
    rw [this]
    unfold List.Nodup at hnd ⊢
    rw [List.pairwise_map]
    exact List.Pairwise.imp (fun {a b} hab e => hab (by simpa [str] using e)) hnd
  · rw [hes]; intro x hx; obtain ⟨r, hr, rfl⟩ := List.mem_map.1 hx; exact ⟨_, rd_rec hk r (hnm r hr)⟩
  · show (((ents str (rs.map Rec.ent)).toList.map (rg P k (unread H))).foldr DataW.insert []).length = _
    rw [(WideShapes.sorted_perm _).length_eq, List.length_map, hes, List.length_map]
  · have hp : (strKeys (.map (((ents str (rs.map Rec.ent)).toList.map (rg P k (unread H))).foldr DataW.insert []))).Perm (rs.map (·.name)) := by
      show ((((ents str (rs.map Rec.ent)).toList.map (rg P k (unread H))).foldr DataW.insert []).map fun p => strOf p.1).Perm _
      refine ((WideShapes.sorted_perm _).map _).trans ?_
      rw [hes, List.map_map, List.map_map]
      have : rs.map (((fun p : Lit × DataW H => strOf p.1) ∘ rg P k (unread H)) ∘ fun r => (⟨str r.name, .pointer (some ⟨r.ptr, 0, none⟩), r.born⟩ : MapEntry)) = rs.map (·.name) := List.map_congr_left fun r hr => by
        simp only [Function.comp, rg, rd_rec hk r (hnm r hr), Option.getD_some]; rfl
      rw [this]
    have h1 := (hss.trans hp).trans hw.names_perm
    exact ⟨names_sort hf.rising h1, h1.length_eq⟩
end Go.Disk
