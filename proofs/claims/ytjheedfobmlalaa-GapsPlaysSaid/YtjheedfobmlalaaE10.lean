/- What turns the heap: in the evaluator and on the machine: stores, maps. It bears no condition. -/
import Derived.Test.YtjheedfobmlalaaE9
namespace Go.Proofs.Ytjheedfobmlalaa.E
open Go.RowKit (Below)
set_option linter.unusedVariables false
set_option linter.unusedSimpArgs false

/-- A world with another thing in a block. -/
def World.put (w : World) (k : Nat) (o : Obj) : World := { w with heap := w.heap.setIfInBounds k o }

section
variable {P : Program} {B : Nat} {w0 w : World} {ρ : Rho} {H : AH} {N : Nat} {T : Tm} {tmps : Array Value} {ds : List Deferred}

theorem put_same {k : Nat} {o x : Obj} (h : w.heap[k]? = some x) : (World.put w k o).heap[k]? = some o := by
  have := (Array.getElem?_eq_some_iff.1 h).1
  simp [World.put, this]
theorem put_other {k j : Nat} {o : Obj} (h : j ≠ k) : (World.put w k o).heap[j]? = w.heap[j]? := by
  simp only [World.put]
  exact Array.getElem?_setIfInBounds_ne (Ne.symm h)
theorem put_size {k : Nat} {o : Obj} : (World.put w k o).heap.size = w.heap.size := by simp [World.put]

theorem BR.low {n : Nat} {b : Blk} (h : BR P B ρ w n b) (hm : b.mutable = true) {k o s : Nat} (e : ρ n = some (k, o, s)) : B ≤ k := by
  cases b with
  | cells c mu =>
    obtain ⟨k', o', s', cs, t, fr, e', hw, hz, hc, ho, h⟩ := h
    rw [e] at e'; cases e'
    exact (h hm).1
  | map es cl => obtain ⟨k', o', s', es', e', hw, hz, hc⟩ := h; rw [e] at e'; cases e'; exact hz
  | loop st pend ps asg body T => obtain ⟨k', o', s', r, N, e', hw, hz, _⟩ := h; rw [e] at e'; cases e'; exact hz

theorem BR.name {n : Nat} {b : Blk} (h : BR P B ρ w n b) : ∃ k o s, ρ n = some (k, o, s) := by
  cases b with
  | cells c mu => obtain ⟨k, o, s, cs, t, fr, e, _⟩ := h; exact ⟨k, o, s, e⟩
  | map es cl => obtain ⟨k, o, s, es', e, _⟩ := h; exact ⟨k, o, s, e⟩
  | loop st pend ps asg body T => obtain ⟨k, o, s, r, N, e, _⟩ := h; exact ⟨k, o, s, e⟩

theorem Rel.put (hR : Rel P B w0 ρ H w) {n : Nat} {b b' : Blk} (hb : H.get n = some b) (hm : b.mutable = true) {k o s : Nat} (e : ρ n = some (k, o, s)) {x : Obj} (hb' : BR P B ρ (World.put w k x) n b') :
    Rel P B w0 ρ (H.set n b') (World.put w k x) ∧ St ρ H w ρ (H.set n b') (World.put w k x) := by
  have hB : B ≤ k := (hR.blk n b hb).low hm e
  refine ⟨⟨hR.hB, ?_, hR.dom, hR.glob, ?_, ?_, ?_⟩, ⟨Ext.refl ρ, ?_, Nat.le_refl _, ?_, ?_, fun m h1 => ?_, fun m h1 h2 => h2⟩⟩
  · exact hR.below.trans ⟨rfl, rfl, rfl, by rw [put_size]; exact Nat.le_refl _, fun j hj => put_other (by omega)⟩
  · intro m c h
    rw [AH.get_set] at h
    split at h
    · rename_i e; subst e
      simp only [Option.some.injEq] at h; subst h
      exact hb'
    · rename_i hne
      refine (hR.blk m c h).keep (Ext.refl ρ) fun k' o' s' e' => put_other ?_
      exact (hR.mu n b m c k o s k' o' s' hb h hne hm e e').symm
  · intro m k' o' s' h; rw [put_size]; exact hR.lt _ _ _ _ h
  · intro m b1 m' b2 k1 o1 s1 k2 o2 s2 h1 h2 hne hm1 e1 e2
    rw [AH.get_set] at h1 h2
    by_cases c1 : n = m
    · subst c1
      rw [if_neg hne] at h2
      rw [e] at e1; cases e1
      exact hR.mu n b m' b2 k o s k2 o2 s2 hb h2 hne hm e e2
    · rw [if_neg c1] at h1
      by_cases c2 : n = m'
      · subst c2
        rw [e] at e2; cases e2
        exact (hR.mu n b m b1 k o s k1 o1 s1 hb h1 c1 hm e e1).symm
      · rw [if_neg c2] at h2
        exact hR.mu m b1 m' b2 k1 o1 s1 k2 o2 s2 h1 h2 hne hm1 e1 e2
  · rw [put_size]; exact Nat.le_refl _
  · intro j hj h
    refine put_other fun he => ?_
    have := (h n o s (by rw [e, he])).2
    rw [hb] at this; cases this
  · intro m j o' s' h _; exact .inl h
  · rw [AH.get_set]
    split
    · rename_i e; subst e; have := h1.2; rw [hb] at this; cases this
    · exact h1.2

theorem Rel.drop (hR : Rel P B w0 ρ H w) (n : Nat) : Rel P B w0 ρ (H.drop n) w := by
  refine ⟨hR.hB, hR.below, hR.dom, hR.glob, ?_, hR.lt, ?_⟩
  · intro m b h
    rw [AH.get_drop] at h
    split at h
    · cases h
    · exact hR.blk m b h
  · intro m b1 m' b2 k1 o1 s1 k2 o2 s2 h1 h2 hne hm1 e1 e2
    rw [AH.get_drop] at h1 h2
    split at h1
    · cases h1
    · split at h2
      · cases h2
      · exact hR.mu m b1 m' b2 k1 o1 s1 k2 o2 s2 h1 h2 hne hm1 e1 e2

/-! ### Rows of cells that are written -/
def putArr : Array Value → Nat → List Value → Array Value
  | cs, _, [] => cs
  | cs, j, u :: us => putArr (cs.setIfInBounds j u) (j + 1) us
theorem putArr_size : ∀ (us : List Value) (cs : Array Value) (j : Nat), (putArr cs j us).size = cs.size
  | [], _, _ => rfl
  | _ :: us, cs, j => by simp [putArr, putArr_size us]
theorem putArr_get : ∀ (us : List Value) (cs : Array Value) (j i : Nat), (putArr cs j us)[i]? = if j ≤ i ∧ i < j + us.length ∧ i < cs.size then us[i - j]? else cs[i]?
  | [], cs, j, i => by simp [putArr]; intro h1 h2; omega
  | u :: us, cs, j, i => by
    simp only [putArr, putArr_get us, Array.size_setIfInBounds, List.length_cons]
    by_cases h : i < cs.size
    · by_cases h1 : i = j
      · subst h1
        simp [h]
        intro h2; omega
      · by_cases h2 : j ≤ i
        · have e : i - j = (i - (j + 1)) + 1 := by omega
          by_cases h3 : i < j + (us.length + 1)
          · rw [if_pos ⟨by omega, by omega, h⟩, if_pos ⟨h2, h3, h⟩, e]; rfl
          · rw [if_neg (by omega), if_neg (by omega), Array.getElem?_setIfInBounds_ne (Ne.symm h1)]
        · rw [if_neg (by omega), if_neg (by omega), Array.getElem?_setIfInBounds_ne (Ne.symm h1)]
    · rw [if_neg (by omega), if_neg (by omega), Array.getElem?_eq_none (by simp; omega), Array.getElem?_eq_none (by omega)]
theorem putAt_get : ∀ (us : List AV) (cs : List AV) (j i : Nat), (putAt cs j us)[i]? = if j ≤ i ∧ i < j + us.length ∧ i < cs.length then us[i - j]? else cs[i]?
  | [], cs, j, i => by simp [putAt]; intro h1 h2; omega
  | u :: us, cs, j, i => by
    simp only [putAt, putAt_get us, List.length_set, List.length_cons]
    by_cases h : i < cs.length
    · by_cases h1 : i = j
      · subst h1
        simp [h]
        intro h2; omega
      · by_cases h2 : j ≤ i
        · have e : i - j = (i - (j + 1)) + 1 := by omega
          by_cases h3 : i < j + (us.length + 1)
          · rw [if_pos ⟨by omega, by omega, h⟩, if_pos ⟨h2, h3, h⟩, e]; rfl
          · rw [if_neg (by omega), if_neg (by omega), List.getElem?_set_ne (Ne.symm h1)]
        · rw [if_neg (by omega), if_neg (by omega), List.getElem?_set_ne (Ne.symm h1)]
    · rw [if_neg (by omega), if_neg (by omega), List.getElem?_eq_none (by simp; omega), List.getElem?_eq_none (by omega)]

theorem modify_some {α : Type} {a : Array α} {k : Nat} {x : α} (h : a[k]? = some x) (f : α → α) : a.modify k f = a.setIfInBounds k (f x) := by
  obtain ⟨hk, rfl⟩ := Array.getElem?_eq_some_iff.1 h
  apply Array.ext
  · simp
  · intro i h1 h2
    rw [Array.getElem_modify]
    by_cases e : k = i
    · subst e; simp
    · rw [if_neg e, Array.getElem_setIfInBounds_ne _ e]

theorem VR_one {v : AV} {c : Value} (h : VR ρ v c) (ho : AV.one v = true) : c.oneCell' = true := by
  cases v with
  | agg _ => simp [AV.one] at ho
  | tup _ => simp [AV.one] at ho
  | b x => rw [VR_b h]; rfl
  | i k n => rw [VR_i h]; rfl
  | s x => rw [VR_s h]; rfl
  | p a =>
    cases a with
    | none => simp only [VR] at h; subst h; rfl
    | some a => obtain ⟨k, o, s, _, rfl⟩ := VR_p h; rfl
  | sl a n m g =>
    cases a with
    | none => simp only [VR] at h; rw [h.2.2]; rfl
    | some a => simp only [VR] at h; obtain ⟨x, y, rfl, _⟩ := h; rfl
  | m r =>
    cases r with
    | none => simp only [VR] at h; rw [h]; rfl
    | some a => simp only [VR] at h; obtain ⟨k, o, s, _, rfl⟩ := h; rfl
  | fn f a b => simp only [VR] at h; obtain ⟨_, _, _, rfl, _⟩ := h; rfl
  | nf => simp only [VR] at h; subst h; rfl

theorem setCell_put {k j : Nat} {cs : Array Value} {t : TypeId} {fr : Nat × Nat} (h : w.heap[k]? = some (.cells cs t fr)) (u : Value) : w.setCell ⟨k, j, none⟩ u = World.put w k (.cells (cs.setIfInBounds j u) t fr) := by
  simp only [World.setCell, World.put]
  rw [modify_some h]; rfl
theorem put_put {k : Nat} {x y : Obj} : World.put (World.put w k x) k y = World.put w k y := by
  simp [World.put]

theorem run_storeCells {k o : Nat} {t : TypeId} {fr : Nat × Nat} : ∀ {us : List Value} {vs : List AV} {w : World} {cs : Array Value} {j : Nat}, w.heap[k]? = some (.cells cs t fr) → VRL ρ vs us → (∀ v ∈ vs, AV.one v = true) →
    o + j + us.length ≤ cs.size → (∀ i, i < cs.size → ¬ (fr.1 ≤ i ∧ i < fr.2)) → (storeCells ⟨k, o, none⟩ us j).run P w = .ok () (World.put w k (.cells (putArr cs (o + j) us) t fr))
  | [], vs, w, cs, j, hw, hv, ho, hl, hf => by
    simp only [storeCells, Sem.run_pure, putArr]
    congr 1
    simp only [World.put]
    obtain ⟨hk, e⟩ := Array.getElem?_eq_some_iff.1 hw
    have : w.heap.setIfInBounds k (.cells cs t fr) = w.heap := by
      apply Array.ext
      · simp
      · intro i h1 h2
        by_cases e2 : k = i
        · subst e2; simp [e]
        · rw [Array.getElem_setIfInBounds_ne _ e2]
    rw [this]
  | u :: us, vs, w, cs, j, hw, hv, ho, hl, hf => by
    cases vs with
    | nil => rw [VRL_nil_iff] at hv; cases hv
    | cons v vs =>
      rw [VRL_cons_iff] at hv
      obtain ⟨u', us', e, hu, hv⟩ := hv
      cases e
      simp only [List.length_cons] at hl
      have hlt : o + j < cs.size := by omega
      have hcell : w.cell? ⟨k, o + j, none⟩ = some cs[o + j] := by rw [cell_of_blk hw]; simp [hlt]
      have hfro : w.frozen? ⟨k, o + j, none⟩ = false := by
        simp only [World.frozen?, hw]
        have := hf _ hlt
        simpa using this
      simp only [storeCells, Sem.run_bind, add_addr]
      have hs : (store ⟨k, o + j, none⟩ u).run P w = .ok () (w.setCell ⟨k, o + j, none⟩ u) := by
        rw [run_store P w _ u .plain (VR_one hu (ho v (by simp)))]
        simp [hcell, hfro]
      simp only [hs, Result.andThen_ok]
      rw [setCell_put hw]
      have := run_storeCells (k := k) (o := o) (us := us) (vs := vs) (w := World.put w k (.cells (cs.setIfInBounds (o + j) u) t fr)) (cs := cs.setIfInBounds (o + j) u) (j := j + 1) (put_same hw) hv (fun x hx => ho x (by simp [hx])) (by simp; omega) (fun i hi => hf i (by simpa using hi))
      rw [this, put_put]
      rfl

/-- Cells are written into a block that has a name. -/
theorem write_ok (hR : Rel P B w0 ρ H w) {b o : Nat} {vs : List AV} {H' : AH} (h : H.write b o vs = some H') {us : List Value} (hv : VRL ρ vs us) (ho : ∀ v ∈ vs, AV.one v = true) {k o' s : Nat} (e : ρ b = some (k, o', s)) :
    ∃ w', (storeCells ⟨k, o' + o, none⟩ us).run P w = .ok () w' ∧ Rel P B w0 ρ H' w' ∧ St ρ H w ρ H' w' := by
  unfold AH.write at h
  split at h
  · rename_i h0
    subst h0
    rw [VRL_nil_iff] at hv; subst hv
    simp only [Option.some.injEq] at h; subst h
    exact ⟨w, rfl, hR, St.refl ρ H w⟩
  · rename_i hne
    split at h
    · rename_i c hb
      split at h
      · rename_i hl
        simp only [Option.some.injEq] at h; subst h
        obtain ⟨k2, o2, s2, cs, t, fr, e2, hw, hs, hc, hone, hm⟩ := hR.blk _ _ hb
        rw [e] at e2; cases e2
        obtain ⟨hB, hf⟩ := hm rfl
        have hcl : ∀ i, i < c.length → o' + i < cs.size := fun i hi => by
          obtain ⟨cv, h1, _⟩ := hc i _ (List.getElem?_eq_getElem hi)
          exact (Array.getElem?_eq_some_iff.1 h1).1
        have hlen := VRL_len hv
        have hfit : o' + o + 0 + us.length ≤ cs.size := by
          by_cases h0 : us.length = 0
          · exact absurd (List.length_eq_zero_iff.1 (by omega)) hne
          · have := hcl (o + vs.length - 1) (by omega)
            omega
        have hr := run_storeCells (P := P) (ρ := ρ) (k := k) (o := o' + o) (t := t) (fr := fr) (us := us) (vs := vs) (w := w) (cs := cs) (j := 0) hw hv ho hfit (fun i hi h9 => by rw [hf] at h9; exact absurd h9.2 (by simp))
        refine ⟨_, hr, ?_⟩
        refine hR.put hb rfl e ?_
        refine ⟨k, o', s, putArr cs (o' + o + 0) us, t, fr, e, put_same hw, by rw [putArr_size]; exact hs, ?_, putAt_one ho hone, fun _ => ⟨hB, hf⟩⟩
        intro i v hi
        rw [putAt_get] at hi
        rw [putArr_get]
        split at hi
        · rename_i hh
          obtain ⟨cv, h1, h2⟩ := VRL_get hv _ _ hi
          refine ⟨cv, ?_, h2⟩
          have := hcl i hh.2.2
          rw [if_pos (by omega), ← h1]
          congr 1; omega
        · rename_i hh
          obtain ⟨cv, h1, h2⟩ := hc i v hi
          refine ⟨cv, ?_, h2⟩
          have hi' : i < c.length := (List.getElem?_eq_some_iff.1 hi).1
          rw [if_neg (by omega)]; exact h1
      · cases h
    · cases h
end
end Go.Proofs.Ytjheedfobmlalaa.E
