/- Operations that turn nothing: what the evaluator's look gives, the machine's run gives. It bears no condition. -/
import Derived.Test.YtjheedfobmlalaaE4
namespace Go.Proofs.Ytjheedfobmlalaa.E
open Go.RowKit (Below)
set_option linter.unusedVariables false
set_option linter.unusedSimpArgs false

section
variable {P : Program} {w : World} {ρ : Rho}

theorem VR_i {k : IntKind} {n : Int} {v : Value} (h : VR ρ (.i k n) v) : v = .int k n := by simpa only [VR] using h
theorem VR_b {b : Bool} {v : Value} (h : VR ρ (.b b) v) : v = .bool b := by simpa only [VR] using h
theorem VR_s {s : ByteArray} {v : Value} (h : VR ρ (.s s) v) : v = .string s := by simpa only [VR] using h
theorem VR_p {a : Nat × Nat} {v : Value} (h : VR ρ (.p (some a)) v) : ∃ k o s, ρ a.1 = some (k, o, s) ∧ v = .pointer (some ⟨k, o + a.2, none⟩) := by simpa only [VR] using h
theorem VR_agg {l : List AV} {v : Value} (h : VR ρ (.agg l) v) : ∃ cs, v = .agg cs ∧ VRL ρ l cs.toList ∧ ∀ x ∈ l, AV.one x = true := by simpa only [VR] using h
theorem VR_tup {l : List AV} {v : Value} (h : VR ρ (.tup l) v) : ∃ cs, v = .tuple cs ∧ VRL ρ l cs.toList := by simpa only [VR] using h

theorem run_asIntOf {k : IntKind} {n : Int} : (asIntOf (.int k n)).run P w = .ok (k, n) w := rfl

/-- A part of a struct, or of an array. -/
theorem run_part {t : TypeId} {n : Nat} (hn : tsize P t = some n) (hu : (P.underlying t).isSome = true) {l : List AV} {cs : Array Value} (h : VRL ρ l cs.toList) (ho : ∀ x ∈ l, AV.one x = true) {off : Nat} {v : AV}
    (hv : (if tagg P t = true then (takeAt l off n).map .agg else l[off]?) = some v) : ∃ c, (part t cs off).run P w = .ok c w ∧ VR ρ v c := by
  unfold part
  simp only [Sem.run_bind, run_isAgg hn hu, Result.andThen_ok]
  cases ht : tagg P t with
  | true =>
    simp only [ht, if_true, Option.map_eq_some_iff] at hv
    obtain ⟨l', hl, rfl⟩ := hv
    obtain ⟨h1, rfl, h3⟩ := takeAt_some hl
    simp only [if_true, Sem.run_bind, run_sizeOf hn, Result.andThen_ok, Sem.run_pure]
    refine ⟨_, rfl, ?_⟩
    simp only [VR]
    refine ⟨_, rfl, ?_, fun x hx => ho x (List.mem_of_mem_drop (List.mem_of_mem_take hx))⟩
    have := VRL_take n (VRL_drop off h)
    rw [show (cs.extract off (off + n)).toList = (cs.toList.drop off).take n by simp [Array.toList_extract, List.extract_eq_take_drop]]
    exact this
  | false =>
    simp only [ht, Bool.false_eq_true, if_false] at hv ⊢
    obtain ⟨c, hc, hv⟩ := VRL_get h _ _ hv
    rw [Array.getElem?_toList] at hc
    exact ⟨c, by simp [hc], hv⟩

theorem sbound_ok {x : AV} {v : Value} (hx : VR ρ x v) {y r : Nat} (h : sbound x y = some r) {y' : Nat} (hy : y ≤ y') (code : BoundsCode) :
    (Instr.sliceBound v y' code).run P w = .ok r w ∧ r ≤ y := by
  unfold sbound at h
  split at h
  · rename_i k i
    rw [VR_i hx]
    split at h
    · rename_i hi
      simp at h; subst h
      refine ⟨?_, by omega⟩
      simp only [Instr.sliceBound, Sem.run_bind, run_asIntOf, Result.andThen_ok]
      rw [if_pos (by constructor <;> omega)]; rfl
    · cases h
  · cases h

/-- The bounds of a slicing: the capacity may be greater than is known, where the slice has no third index. -/
theorem sbounds_ok {len cap cap' : Nat} {lo hi mx : Option AV} {lo' hi' mx' : Option Value} (h1 : VRO ρ lo lo') (h2 : VRO ρ hi hi') (h3 : VRO ρ mx mx') {l h m : Nat} (hc : cap ≤ cap')
    (hb : sbounds len cap lo hi mx = some (l, h, m)) (isS : Bool) :
    (Instr.sliceBounds isS len cap' lo' hi' mx').run P w = .ok (l, h, if mx.isSome then m else cap') w ∧ (mx = none → m = cap) ∧ m ≤ cap := by
  unfold sbounds at hb
  cases mx with
  | none =>
    simp only [VRO] at h3; subst h3
    simp only at hb
    cases hi with
    | none =>
      simp only [VRO] at h2; subst h2
      simp only at hb
      cases lo with
      | none =>
        simp only [VRO] at h1; subst h1
        simp at hb; obtain ⟨rfl, rfl, rfl⟩ := hb
        exact ⟨by simp [Instr.sliceBounds], fun _ => rfl, Nat.le_refl _⟩
      | some lo =>
        obtain ⟨c, rfl, h1⟩ := h1
        simp only at hb
        cases hl : sbound lo len with
        | none => simp [hl] at hb
        | some x =>
          simp [hl] at hb; obtain ⟨rfl, rfl, rfl⟩ := hb
          refine ⟨?_, fun _ => rfl, Nat.le_refl _⟩
          simp [Instr.sliceBounds, (sbound_ok (P := P) (w := w) h1 hl (Nat.le_refl _) _).1]
    | some hi =>
      obtain ⟨c2, rfl, h2⟩ := h2
      simp only at hb
      cases hh : sbound hi cap with
      | none => simp [hh] at hb
      | some y =>
        simp only [hh] at hb
        have k2 := fun code => (sbound_ok (P := P) (w := w) h2 hh hc code).1
        cases lo with
        | none =>
          simp only [VRO] at h1; subst h1
          simp at hb; obtain ⟨rfl, rfl, rfl⟩ := hb
          exact ⟨by simp [Instr.sliceBounds, k2], fun _ => rfl, Nat.le_refl _⟩
        | some lo =>
          obtain ⟨c, rfl, h1⟩ := h1
          simp only at hb
          cases hl : sbound lo y with
          | none => simp [hl] at hb
          | some x =>
            simp [hl] at hb; obtain ⟨rfl, rfl, rfl⟩ := hb
            refine ⟨?_, fun _ => rfl, Nat.le_refl _⟩
            simp [Instr.sliceBounds, k2, (sbound_ok (P := P) (w := w) h1 hl (Nat.le_refl _) _).1]
  | some mx =>
    obtain ⟨c3, rfl, h3⟩ := h3
    simp only at hb
    cases hm : sbound mx cap with
    | none => simp [hm] at hb
    | some z =>
      simp only [hm] at hb
      have k3 := fun code => (sbound_ok (P := P) (w := w) h3 hm hc code).1
      have hz := (sbound_ok (P := P) (w := w) h3 hm hc .index).2
      cases hi with
      | none => simp at hb
      | some hi =>
        obtain ⟨c2, rfl, h2⟩ := h2
        simp only at hb
        cases hh : sbound hi z with
        | none => simp [hh] at hb
        | some y =>
          simp only [hh] at hb
          have k2 := fun code => (sbound_ok (P := P) (w := w) h2 hh (Nat.le_refl _) code).1
          cases lo with
          | none =>
            simp only [VRO] at h1; subst h1
            simp at hb; obtain ⟨rfl, rfl, rfl⟩ := hb
            exact ⟨by simp [Instr.sliceBounds, k2, k3], fun e => (by cases e), hz⟩
          | some lo =>
            obtain ⟨c, rfl, h1⟩ := h1
            simp only at hb
            cases hl : sbound lo y with
            | none => simp [hl] at hb
            | some x =>
              simp [hl] at hb; obtain ⟨rfl, rfl, rfl⟩ := hb
              refine ⟨?_, fun e => (by cases e), hz⟩
              simp [Instr.sliceBounds, k2, k3, (sbound_ok (P := P) (w := w) h1 hl (Nat.le_refl _) _).1]

theorem sbounds_le {len cap : Nat} {lo hi mx : Option AV} {l h m : Nat} (hlc : len ≤ cap) (hb : sbounds len cap lo hi mx = some (l, h, m)) : l ≤ h ∧ h ≤ m := by
  have hs : ∀ {x : AV} {y r : Nat}, sbound x y = some r → r ≤ y := fun {x y r} h => by
    unfold sbound at h
    split at h
    · split at h
      · rename_i hi; simp at h; omega
      · cases h
    · cases h
  unfold sbounds at hb
  cases mx with
  | none =>
    cases hi with
    | none =>
      cases lo with
      | none => simp at hb; omega
      | some lo =>
        simp only at hb
        cases hl : sbound lo len with
        | none => simp [hl] at hb
        | some x => simp [hl] at hb; have := hs hl; omega
    | some hi =>
      simp only at hb
      cases hh : sbound hi cap with
      | none => simp [hh] at hb
      | some y =>
        simp only [hh] at hb
        have := hs hh
        cases lo with
        | none => simp at hb; omega
        | some lo =>
          simp only at hb
          cases hl : sbound lo y with
          | none => simp [hl] at hb
          | some x => simp [hl] at hb; have := hs hl; omega
  | some mx =>
    simp only at hb
    cases hm : sbound mx cap with
    | none => simp [hm] at hb
    | some z =>
      simp only [hm] at hb
      cases hi with
      | none => simp at hb
      | some hi =>
        simp only at hb
        cases hh : sbound hi z with
        | none => simp [hh] at hb
        | some y =>
          simp only [hh] at hb
          have := hs hh
          cases lo with
          | none => simp at hb; omega
          | some lo =>
            simp only at hb
            cases hl : sbound lo y with
            | none => simp [hl] at hb
            | some x => simp [hl] at hb; have := hs hl; omega

/-! ### Rows of parts -/
theorem cellsOf_ok {v : AV} {c : Value} {l : List AV} (h : VR ρ v c) (hl : v.cellsOf = some l) : VRL ρ l c.cells.toList ∧ ∀ x ∈ l, AV.one x = true := by
  have one : ∀ {v : AV} {c : Value}, VR ρ v c → c.cells.toList = [c] → AV.one v = true → VRL ρ [v] c.cells.toList ∧ ∀ x ∈ [v], AV.one x = true := fun {v c} h e o => by
    rw [e]; exact ⟨VRL_cons h VRL_nil, by simpa using o⟩
  cases v with
  | agg l => simp only [AV.cellsOf, Option.some.injEq] at hl; subst hl; obtain ⟨cs, e, h1⟩ := VR_agg h; subst e; exact h1
  | tup l => simp [AV.cellsOf] at hl
  | b x => simp only [AV.cellsOf, Option.some.injEq] at hl; subst hl; exact one h (by rw [VR_b h]; rfl) rfl
  | i k n => simp only [AV.cellsOf, Option.some.injEq] at hl; subst hl; exact one h (by rw [VR_i h]; rfl) rfl
  | s x => simp only [AV.cellsOf, Option.some.injEq] at hl; subst hl; exact one h (by rw [VR_s h]; rfl) rfl
  | p a =>
    simp only [AV.cellsOf, Option.some.injEq] at hl; subst hl
    refine one h ?_ rfl
    cases a with
    | none => simp only [VR] at h; subst h; rfl
    | some a => obtain ⟨k, o, s, _, rfl⟩ := VR_p h; rfl
  | sl a n m g =>
    simp only [AV.cellsOf, Option.some.injEq] at hl; subst hl
    refine one h ?_ rfl
    cases a with
    | none => simp only [VR] at h; rw [h.2.2]; rfl
    | some a => simp only [VR] at h; obtain ⟨x, y, rfl, _⟩ := h; rfl
  | m r =>
    simp only [AV.cellsOf, Option.some.injEq] at hl; subst hl
    refine one h ?_ rfl
    cases r with
    | none => simp only [VR] at h; rw [h]; rfl
    | some a => simp only [VR] at h; obtain ⟨k, o, s, _, rfl⟩ := h; rfl
  | fn f a b =>
    simp only [AV.cellsOf, Option.some.injEq] at hl; subst hl
    refine one h ?_ rfl
    simp only [VR] at h; obtain ⟨_, _, _, rfl, _⟩ := h; rfl
  | nf => simp only [AV.cellsOf, Option.some.injEq] at hl; subst hl; exact one h (by simp only [VR] at h; subst h; rfl) rfl

theorem putAt_one : ∀ {vs c : List AV} {o : Nat}, (∀ x ∈ vs, AV.one x = true) → (∀ x ∈ c, AV.one x = true) → ∀ x ∈ putAt c o vs, AV.one x = true
  | [], c, o, _, h => h
  | v :: vs, c, o, hv, h => by
    simp only [putAt]
    refine putAt_one (fun x hx => hv x (by simp [hx])) fun x hx => ?_
    rcases List.mem_or_eq_of_mem_set hx with h1 | rfl
    · exact h x h1
    · exact hv _ (by simp)

theorem putAt_ok : ∀ {vs : List AV} {us : List Value} {c : List AV} {cs : Array Value} (off i : Nat), VRL ρ vs us → VRL ρ c cs.toList →
    VRL ρ (putAt c (off + i) vs) ((us.zipIdx i).foldl (fun cs (x : Value × Nat) => cs.setIfInBounds (off + x.2) x.1) cs).toList
  | [], us, c, cs, off, i, h, k => by rw [VRL_nil_iff] at h; subst h; simpa [putAt] using k
  | v :: vs, us, c, cs, off, i, h, k => by
    rw [VRL_cons_iff] at h; obtain ⟨u, us, rfl, hu, h⟩ := h
    simp only [putAt, List.zipIdx_cons, List.foldl_cons]
    have := putAt_ok (vs := vs) (us := us) (c := c.set (off + i) v) (cs := cs.setIfInBounds (off + i) u) off (i + 1) h (by rw [Array.toList_setIfInBounds]; exact VRL_set _ k hu)
    rwa [show off + (i + 1) = off + i + 1 by omega] at this
def PL (ρ : Rho) (T : Tm) (ev : Operand → Value) (place : Nat → Option (Nat × Nat)) : List (Nat × Operand) → List (Nat × Nat × XO) → Prop
  | [], l => l = []
  | (i, x) :: r, l => ∃ off size a l', l = (off, size, a) :: l' ∧ place i = some (off, size) ∧ VR ρ (a.ev T) (ev x) ∧ PL ρ T ev place r l'
theorem fill_ok {T : Tm} {ev : Operand → Value} {place : Nat → Option (Nat × Nat)} : ∀ {parts : List (Nat × Operand)} {l : List (Nat × Nat × XO)} {z c : List AV} {cells : Array Value},
    PL ρ T ev place parts l → fillP T z l = some c → VRL ρ z cells.toList → (∀ x ∈ z, AV.one x = true) → ∃ cs, Instr.fill place cells (parts.map fun p => (p.1, ev p.2)) = some cs ∧ VRL ρ c cs.toList ∧ ∀ x ∈ c, AV.one x = true
  | [], l, z, c, cells, h, k, hz, ho => by
    simp only [PL] at h; subst h
    simp [fillP] at k; subst k
    exact ⟨cells, rfl, hz, ho⟩
  | (i, x) :: r, l, z, c, cells, h, k, hz, ho => by
    simp only [PL] at h
    obtain ⟨off, size, a, l', rfl, hp, hv, h⟩ := h
    simp only [fillP] at k
    split at k
    · rename_i vs hvs
      split at k
      · rename_i hh
        obtain ⟨hc, hone⟩ := cellsOf_ok hv hvs
        have e1 : (ev x).cells.size = size := by rw [← hh.1, VRL_len hc]; simp
        have e2 : z.length = cells.size := by rw [VRL_len hz]; simp
        have hz' : VRL ρ (putAt z off vs) (((ev x).cells.zipIdx.foldl (fun cs (x : Value × Nat) => cs.setIfInBounds (off + x.2) x.1) cells)).toList := by
          have := putAt_ok off 0 hc hz
          simp only [Nat.add_zero] at this
          rw [← Array.foldl_toList, Array.toList_zipIdx]; exact this
        obtain ⟨cs, hf, hv', ho'⟩ := fill_ok h k hz' (putAt_one hone ho)
        refine ⟨cs, ?_, hv', ho'⟩
        simp only [List.map_cons, Instr.fill, hp]
        rw [if_neg (by simp [e1]; omega)]
        exact hf
      · cases k
    · cases k
theorem run_zero {t : TypeId} {z : List AV} (h : tzero P t = some z) : ∃ v n, (zeroValue t).run P w = .ok v w ∧ VRL ρ z v.cells.toList ∧ (∀ x ∈ z, AV.one x = true) ∧ tsize P t = some n ∧ z.length = n := by
  unfold tzero at h
  cases hi : P.info? t with
  | none => simp [hi] at h
  | some i =>
    simp only [hi] at h
    cases hz : i.zero with
    | none => simp [hz] at h
    | some v =>
      simp only [hz] at h
      cases hl : absL v.cells.toList with
      | none => simp [hl] at h
      | some l =>
        simp only [hl, Option.bind_some] at h
        split at h
        · rename_i hlen
          simp at h; subst h
          exact ⟨v, i.size, by simp [zeroValue, run_typeInfo hi, hz], absL_ok hl, absL_one hl, by simp [tsize, hi], hlen⟩
        · cases h

theorem placesS_ok {B : Nat} {w0 : World} {H : AH} {N : Nat} {T : Tm} {tmps : Array Value} {ds : List Deferred} (hR : Rel P B w0 ρ H w) (hT : TR ρ N T tmps) {fields : Array Field} :
    ∀ {parts : List (Nat × Operand)} {l : List (Nat × Nat × XO)}, placesS P fields parts = some l → ∀ {places : Array (Nat × Nat)}, (∀ (i : Nat) (f : Field) (n : Nat), fields[i]? = some f → tsize P f.type = some n → places[i]? = some (f.offset, n)) →
    PL ρ T (Act.eval ⟨tmps, ds⟩) (places[·]?) parts l
  | [], l, h, places, hp => by simp [placesS] at h; subst h; simp [PL]
  | (i, x) :: r, l, h, places, hp => by
    simp only [placesS] at h
    cases hf : fields[i]? with
    | none => simp [hf] at h
    | some f =>
      cases hx : cX P x with
      | none => simp [hf, hx] at h
      | some a =>
        cases hr : placesS P fields r with
        | none => simp [hf, hx, hr] at h
        | some l' =>
          simp only [hf, hx, hr, Option.map_eq_some_iff] at h
          obtain ⟨n, hn, rfl⟩ := h
          simp only [PL]
          exact ⟨f.offset, n, a, l', rfl, hp i f n hf hn, cX_ok hR hT hx, placesS_ok hR hT hr hp⟩
theorem placesA_ok {B : Nat} {w0 : World} {H : AH} {N : Nat} {T : Tm} {tmps : Array Value} {ds : List Deferred} (hR : Rel P B w0 ρ H w) (hT : TR ρ N T tmps) {size : Nat} :
    ∀ {parts : List (Nat × Operand)} {l : List (Nat × Nat × XO)}, placesA P size parts = some l → PL ρ T (Act.eval ⟨tmps, ds⟩) (fun i => some (i * size, size)) parts l
  | [], l, h => by simp [placesA] at h; subst h; simp [PL]
  | (i, x) :: r, l, h => by
    simp only [placesA] at h
    cases hx : cX P x with
    | none => simp [hx] at h
    | some a =>
      cases hr : placesA P size r with
      | none => simp [hx, hr] at h
      | some l' =>
        simp only [hx, hr, Option.some.injEq] at h
        subst h
        simp only [PL]
        exact ⟨i * size, size, a, l', rfl, rfl, cX_ok hR hT hx, placesA_ok hR hT hr⟩

/-- The places of a struct's fields. -/
theorem run_places : ∀ (fields : List Field) (acc : List (Nat × Nat)), (∀ f ∈ fields, ∃ n, tsize P f.type = some n) →
    ∃ l : List (Nat × Nat), (fields.mapM (fun f => do pure (f.offset, ← sizeOf f.type) : Field → Sem (Nat × Nat))).run P w = .ok l w ∧ l.length = fields.length ∧
      ∀ (i : Nat) (f : Field) (n : Nat), fields[i]? = some f → tsize P f.type = some n → l[i]? = some (f.offset, n)
  | [], _, _ => ⟨[], rfl, rfl, fun i f n h => by simp at h⟩
  | f :: r, acc, h => by
    obtain ⟨n, hn⟩ := h f (by simp)
    obtain ⟨l, hl, hlen, hg⟩ := run_places r acc fun g hg => h g (by simp [hg])
    refine ⟨(f.offset, n) :: l, ?_, by simp [hlen], fun i g m hi hm => ?_⟩
    · simp only [List.mapM_cons, Sem.run_bind, run_sizeOf hn, Result.andThen_ok, Sem.run_pure, hl]
    · cases i with
      | zero => simp at hi; subst hi; rw [hn] at hm; cases hm; rfl
      | succ i => simpa using hg i g m (by simpa using hi) hm
end
end Go.Proofs.Ytjheedfobmlalaa.E
