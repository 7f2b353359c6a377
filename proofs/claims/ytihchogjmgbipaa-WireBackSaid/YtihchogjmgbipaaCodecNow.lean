import Derived.Test.YtihchogjmgbipaaCodecBits
/- The program's reader as a thing of the ledger. No program. -/
set_option linter.unusedVariables false
namespace Go.Codec
open Go.Rl
section
variable {w0 w w' : World} {F : Nat → Prop} {L : List Atom} {a a' b : Atom}
/-- One thing is done to, and one is new. -/
theorem updPush (h : Now w0 F w L) (i : Nat) (hi : L[i]? = some a) (hm : Rl.Mod a.foot w w') (hs : a'.says w') (hf : ∀ k, a'.foot k → a.foot k) (hb : b.says w') (hbf : ∀ k, b.foot k → w.heap.size ≤ k ∧ k < w'.heap.size) : Now w0 F w' (b :: L.set i a') := by
  have hU := h.upd i hi hm hs (fun k hk => ⟨.inl (hf k hk), Nat.lt_of_lt_of_le (h.low i a hi k (hf k hk)).2 hm.size⟩)
  refine hU.add hb (fun k hk => ⟨Nat.le_trans h.size (hbf k hk).1, (hbf k hk).2⟩) fun j c hc k hk hk' => ?_
  have hlt : k < w.heap.size := by
    rw [List.getElem?_set] at hc
    split at hc
    · split at hc
      · cases hc; exact (h.low i a hi k (hf k hk)).2
      · cases hc
    · exact (h.low j c hc k hk).2
  have := (hbf k hk').1
  omega
/-- A reader. -/
def Rdr (T : TypeId) (lo hi g : Nat) (s : St) : Atom where
  foot k := lo ≤ k ∧ k < hi
  says w := Rd T w lo hi g s
  keep := by
    intro w w' h hs
    obtain ⟨hb, hc, v, h1, ⟨A, c, hv, l1, l2, hcell⟩, h3⟩ := hs
    refine ⟨hb, hc, v, ?_, ⟨A, c, hv, l1, l2, fun j u hj => ?_⟩, h3⟩
    · unfold Blk at *
      exact (h g ⟨hb, hc⟩ (Array.getElem?_eq_some_iff.1 h1).1).trans h1
    · obtain ⟨ad, e, hq⟩ := hcell j u hj
      refine ⟨ad, e, ?_⟩
      have hbl := block_lt_of_cell hq
      have hk : v.ownBlock = some ad.block := by rw [hv, e]; rfl
      rw [block_add] at hbl
      exact (World.cell?_of_block (by rw [block_add]; exact h _ ⟨(h3 _ hk).1, (h3 _ hk).2.1⟩ hbl)).trans hq
theorem Rdr.says {T : TypeId} {lo hi g : Nat} {s : St} (h : Now w0 F w L) (i : Nat) (hi_ : L[i]? = some (Rdr T lo hi g s)) : Rd T w lo hi g s := h.says i _ hi_
theorem rdrStep {T : TypeId} {lo hi g : Nat} {s s' : St} (h : Now w0 F w L) (i : Nat) (hi_ : L[i]? = some (Rdr T lo hi g s)) (hr : Rd T w' lo hi g s') (hm : Rl.Mod (fun k => k = g) w w') : Now w0 F w' (L.set i (Rdr T lo hi g s')) := by
  have h0 := Rdr.says h i hi_
  refine h.upd i hi_ (hm.mono fun k _ e => ?_) hr fun k hk => ⟨.inl hk, Nat.lt_of_lt_of_le (h.low i _ hi_ k hk).2 hm.size⟩
  cases e; exact ⟨h0.1, h0.2.1⟩
theorem rdrOwn {α : Type} {enc : α → Value} {E T : TypeId} {lo hi g : Nat} {s s' : St} {v : Value} {l : List α} (h : Now w0 F w L) (i : Nat) (hi_ : L[i]? = some (Rdr T lo hi g s)) (ho : Own enc E w' w.heap.size v l) (hr : Rd T w' lo hi g s') (hm : Rl.Mod (fun k => k = g) w w') :
    Now w0 F w' (.own enc E v l :: L.set i (Rdr T lo hi g s')) := by
  have h0 := Rdr.says h i hi_
  refine updPush h i hi_ (hm.mono fun k _ e => ?_) hr (fun _ hk => hk) (ho.lower (Nat.zero_le _)) (fun k hk => ho.lt k hk)
  cases e; exact ⟨h0.1, h0.2.1⟩
theorem rdrHi {T : TypeId} {lo hi g : Nat} {s : St} (h : Now w0 F w L) (i : Nat) (hi_ : L[i]? = some (Rdr T lo hi g s)) : hi ≤ w.heap.size := by
  have h0 := Rdr.says h i hi_
  have hlt : lo < hi := Nat.lt_of_le_of_lt h0.1 h0.2.1
  have := (h.low i _ hi_ (hi - 1) ⟨by omega, by omega⟩).2
  omega
theorem rdrPush {T : TypeId} {g : Nat} {s : St} (h : Now w0 F w L) (hr : Rd T w' w.heap.size w'.heap.size g s) (he : Ext w w') : Now w0 F w' (Rdr T w.heap.size w'.heap.size g s :: L) :=
  h.push he hr fun k hk => hk
end
end Go.Codec
