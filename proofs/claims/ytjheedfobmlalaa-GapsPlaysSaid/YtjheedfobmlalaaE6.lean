/- What an operation that turns nothing gives in the evaluator, it gives on the machine. It bears no condition. -/
import Derived.LaidEql
import Derived.Test.YtjheedfobmlalaaE5
namespace Go.Proofs.Ytjheedfobmlalaa.E
open Go.RowKit (Below)
set_option linter.unusedVariables false
set_option linter.unusedSimpArgs false

section
variable {P : Program} {B : Nat} {w0 w : World} {ρ : Rho} {H : AH} {N : Nat} {T : Tm} {tmps : Array Value} {ds : List Deferred}

abbrev Lk (P : Program) (w : World) (ρ : Rho) (s : Sem Value) (v : AV) : Prop := ∃ c, s.run P w = .ok c w ∧ VR ρ v c

theorem lk_load (hR : Rel P B w0 ρ H w) {t : TypeId} {x : AV} {a : Value} {n : Nat} {v : AV} (hx : VR ρ x a) (hn : tsize P t = some n) (hu : (P.underlying t).isSome = true)
    (h : (match (generalizing := false) x with
      | .p (some (b, o)) =>
        match H.get b with
        | some (.cells c _) => if tagg P t then (takeAt c o n).map .agg else c[o]?
        | _ => none
      | _ => none) = some v) : Lk P w ρ (Instr.loadAt t a) v := by
  split at h
  · rename_i b o
    obtain ⟨k, o', s, hk, rfl⟩ := VR_p hx
    split at h
    · rename_i c mu hb
      obtain ⟨k2, o2, s2, cs, t2, fr, hk2, hw, hs, hc, hone, _⟩ := hR.blk _ _ hb
      simp only at hk
      rw [hk] at hk2; cases hk2
      unfold Lk Instr.loadAt
      simp only [Sem.run_bind, Instr.sureAddr, Sem.run_pure, Result.andThen_ok, loadVar, run_isAgg hn hu]
      cases ht : tagg P t with
      | true =>
        simp only [ht, if_true, Option.map_eq_some_iff] at h
        obtain ⟨l, hl, rfl⟩ := h
        obtain ⟨vs, hv, hr⟩ := run_loadCells_of (P := P) hw hc hl
        simp only [if_true, Sem.run_bind, run_sizeOf hn, Result.andThen_ok, hr, Sem.run_pure]
        exact ⟨_, rfl, by simp only [VR]; exact ⟨_, rfl, by simpa using hv, fun x hx => by obtain ⟨_, rfl, _⟩ := takeAt_some hl; exact hone x (List.mem_of_mem_drop (List.mem_of_mem_take hx))⟩⟩
      | false =>
        simp only [ht, Bool.false_eq_true, if_false] at h ⊢
        obtain ⟨cv, hcv, hv⟩ := hc _ _ h
        refine ⟨cv, ?_, hv⟩
        rw [run_load, cell_of_blk hw, hcv]
    · cases h
  · cases h

theorem lk_fld {t : TypeId} {fields : Array Field} (hs : P.underlying t = some (.struct fields)) {f : Nat} {fd : Field} (hf : fields[f]? = some fd) {n : Nat} (hn : tsize P fd.type = some n)
    (hu : (P.underlying fd.type).isSome = true) {x : AV} {a : Value} (hx : VR ρ x a) {v : AV}
    (h : (match (generalizing := false) x with | .agg c => if tagg P fd.type then (takeAt c fd.offset n).map .agg else c[fd.offset]? | _ => none) = some v) : Lk P w ρ (Instr.field t a f) v := by
  split at h
  · rename_i c
    obtain ⟨cs, rfl, hc, hone⟩ := VR_agg hx
    obtain ⟨cv, hr, hv⟩ := run_part (P := P) (w := w) hn hu hc hone h
    refine ⟨cv, ?_, hv⟩
    simp [Instr.field, run_underlying hs, hf, asAgg, hr]
  · cases h

theorem lk_idxa {t e : TypeId} {len : Nat} (hs : P.underlying t = some (.array len e)) {n : Nat} (hn : tsize P e = some n) (hu : (P.underlying e).isSome = true) {x i : AV} {a b : Value}
    (hx : VR ρ x a) (hi : VR ρ i b) {v : AV}
    (h : (match (generalizing := false) x, i with | .agg c, .i _ m => if 0 ≤ m ∧ m < (len : Int) then (if tagg P e then (takeAt c (m.toNat * n) n).map .agg else c[m.toNat * n]?) else none | _, _ => none) = some v) :
    Lk P w ρ (Instr.index t a b) v := by
  split at h
  · rename_i c k m
    rw [VR_i hi]
    obtain ⟨cs, rfl, hc, hone⟩ := VR_agg hx
    split at h
    · rename_i hm
      obtain ⟨cv, hr, hv⟩ := run_part (P := P) (w := w) hn hu hc hone h
      refine ⟨cv, ?_, hv⟩
      simp only [Instr.index, Sem.run_bind, run_asIntOf, Result.andThen_ok, run_underlying hs]
      rw [if_pos hm]
      simp only [Sem.run_bind, run_sizeOf hn, Result.andThen_ok, hr]
    · cases h
  · cases h

theorem lk_idxs {t : TypeId} (hs : P.underlying t = some .string) {x i : AV} {a b : Value} (hx : VR ρ x a) (hi : VR ρ i b) {v : AV}
    (h : (match (generalizing := false) x, i with | .s s, .i _ n => if 0 ≤ n then (s[n.toNat]?).map fun b => .i .u8 b.toNat else none | _, _ => none) = some v) : Lk P w ρ (Instr.index t a b) v := by
  split at h
  · rename_i s k m
    rw [VR_i hi, VR_s hx]
    split at h
    · rename_i hm
      simp only [Option.map_eq_some_iff] at h
      obtain ⟨u, hu, rfl⟩ := h
      refine ⟨.int .u8 u.toNat, ?_, by simp only [VR]⟩
      simp only [Instr.index, Sem.run_bind, run_asIntOf, Result.andThen_ok, run_underlying hs]
      rw [if_pos hm, hu]; rfl
    · cases h
  · cases h

theorem lk_slarr {t e : TypeId} {k size : Nat} (hs : P.underlying t = some (.array k e)) (hn : tsize P e = some size) {x : AV} {lo hi mx : Option AV} {a : Value} {lo' hi' mx' : Option Value}
    (hx : VR ρ x a) (h1 : VRO ρ lo lo') (h2 : VRO ρ hi hi') (h3 : VRO ρ mx mx') {v : AV}
    (h : (match (generalizing := false) x with
      | .p (some (b, o)) =>
        match sbounds k k lo hi mx with
        | some (l, h, m) => some (AV.sl (if m = l then some (b, o) else some (b, o + l * size)) (h - l) (m - l) 0)
        | none => none
      | _ => none) = some v) : Lk P w ρ (Instr.sliceAt t a lo' hi' mx') v := by
  split at h
  · rename_i b o
    obtain ⟨kk, o', s, hk, rfl⟩ := VR_p hx
    split at h
    · rename_i l hh m hb
      simp only [Option.some.injEq] at h; subst h
      obtain ⟨hr, hm, hle⟩ := sbounds_ok (P := P) (w := w) h1 h2 h3 (Nat.le_refl k) hb false
      obtain ⟨q1, q2⟩ := sbounds_le (Nat.le_refl k) hb
      have hm' : (if mx.isSome then m else k) = m := by
        cases mx with
        | none => simp [hm rfl]
        | some _ => rfl
      rw [hm'] at hr
      simp only [Lk, Instr.sliceAt, Sem.run_bind, run_underlying hs, Result.andThen_ok, Instr.sureAddr, Sem.run_pure, hr, run_sizeOf hn]
      refine ⟨_, rfl, ?_⟩
      by_cases hml : m = l
      · rw [if_pos hml, if_pos hml]
        simp only [VR]
        exact ⟨_, _, rfl, by omega, .inl ⟨kk, o', s, hk, rfl, fun _ => rfl, fun h => absurd rfl h⟩⟩
      · rw [if_neg hml, if_neg hml]
        simp only [VR, add_addr]
        exact ⟨_, _, rfl, by omega, .inl ⟨kk, o', s, hk, by rw [Nat.add_assoc], fun _ => rfl, fun h => absurd rfl h⟩⟩
    · cases h
  · cases h

theorem lk_slstr {t : TypeId} (hs : P.underlying t = some .string) {x : AV} {lo hi : Option AV} {a : Value} {lo' hi' : Option Value} (hx : VR ρ x a) (h1 : VRO ρ lo lo') (h2 : VRO ρ hi hi') {v : AV}
    (h : (match (generalizing := false) x with | .s s => (sbounds s.size s.size lo hi none).map fun (l, h, _) => AV.s (s.extract l h) | _ => none) = some v) : Lk P w ρ (Instr.sliceAt t a lo' hi' none) v := by
  split at h
  · rename_i s
    rw [VR_s hx]
    simp only [Option.map_eq_some_iff] at h
    obtain ⟨⟨l, hh, m⟩, hb, rfl⟩ := h
    obtain ⟨hr, hm, hle⟩ := sbounds_ok (P := P) (w := w) h1 h2 (mx := none) (mx' := none) (by simp [VRO]) (Nat.le_refl s.size) hb false
    simp only [Lk, Instr.sliceAt, Instr.slice, Sem.run_bind, run_underlying hs, Result.andThen_ok]
    refine ⟨.string (s.extract l hh), ?_, by simp only [VR]⟩
    simp [hr]
  · cases h

theorem lk_slsl {t e : TypeId} {size : Nat} (hs : P.underlying t = some (.slice e)) (hn : tsize P e = some size) (h0 : 0 < size) {x : AV} {lo hi mx : Option AV} {a : Value} {lo' hi' mx' : Option Value}
    (hx : VR ρ x a) (h1 : VRO ρ lo lo') (h2 : VRO ρ hi hi') (h3 : VRO ρ mx mx') {v : AV}
    (h : (match (generalizing := false) x with
      | .sl a len cap g =>
        if g = 0 ∨ g = size then
          match sbounds len cap lo hi mx with
          | some (l, h, m) =>
            let g' := if mx.isSome then 0 else g
            some (AV.sl (if m = l ∧ g' = 0 then a else a.map fun (b, o) => (b, o + l * size)) (h - l) (m - l) g')
          | none => none
        else none
      | _ => none) = some v) : Lk P w ρ (Instr.sliceAt t a lo' hi' mx') v := by
  split at h
  · rename_i ad len cap g
    split at h
    · rename_i hg
      split at h
      · rename_i l hh m hb
        simp only [Option.some.injEq] at h; subst h
        cases ad with
        | none =>
          simp only [VR] at hx
          obtain ⟨rfl, rfl, rfl⟩ := hx
          obtain ⟨hr, hm, hle⟩ := sbounds_ok (P := P) (w := w) h1 h2 h3 (Nat.le_refl 0) hb true
          obtain ⟨q1, q2⟩ := sbounds_le (Nat.le_refl 0) hb
          have e1 : l = 0 := by omega
          have e2 : hh = 0 := by omega
          have e3 : m = 0 := by omega
          subst e1; subst e2; subst e3
          simp only [Lk, Instr.sliceAt, Instr.slice, Sem.run_bind, run_underlying hs, Result.andThen_ok, hr, run_sizeOf hn]
          refine ⟨.slice none 0 0, by simp, ?_⟩
          have e : ∀ (c : Prop) [Decidable c], (if c then (none : Option (Nat × Nat)) else Option.map (fun x : Nat × Nat => (x.1, x.2 + 0 * size)) none) = none := fun c _ => by split <;> rfl
          simp only [Nat.sub_self]
          rw [e]; simp [VR]
        | some ad =>
          simp only [VR] at hx
          obtain ⟨xa, c, rfl, hlc, hx⟩ := hx
          have hcc : cap ≤ c := by
            rcases hx with ⟨_, _, _, _, _, e1, e2⟩ | ⟨_, e, e'⟩
            · by_cases hg0 : g = 0
              · rw [e1 hg0]; exact Nat.le_refl _
              · exact (e2 hg0).1
            · omega
          obtain ⟨hr, hm, hle⟩ := sbounds_ok (P := P) (w := w) h1 h2 h3 hcc hb true
          obtain ⟨q1, q2⟩ := sbounds_le hlc hb
          simp only [Lk, Instr.sliceAt, Instr.slice, Sem.run_bind, run_underlying hs, Result.andThen_ok, hr, run_sizeOf hn, Sem.run_pure]
          refine ⟨_, rfl, ?_⟩
          rcases hx with ⟨k, o, s, hk, rfl, e1, e2⟩ | ⟨rfl, rfl, rfl⟩
          · cases mx with
            | some mxv =>
              simp only [Option.isSome_some, if_true]
              by_cases hml : m = l
              · rw [if_pos hml, if_pos ⟨hml, trivial⟩]
                simp only [VR]
                exact ⟨_, _, rfl, by omega, .inl ⟨k, o, s, hk, rfl, fun _ => rfl, fun h => absurd rfl h⟩⟩
              · rw [if_neg hml, if_neg (fun h => hml h.1)]
                simp only [VR, Option.map_some, add_addr]
                exact ⟨_, _, rfl, by omega, .inl ⟨k, o, s, hk, by rw [Nat.add_assoc], fun _ => rfl, fun h => absurd rfl h⟩⟩
            | none =>
              have hm' := hm rfl
              subst hm'
              simp only [Option.isSome_none, Bool.false_eq_true, if_false]
              by_cases hg0 : g = 0
              · have := e1 hg0
                subst this
                by_cases hml : c = l
                · rw [if_pos hml, if_pos ⟨hml, hg0⟩]
                  simp only [VR]
                  exact ⟨_, _, rfl, by omega, .inl ⟨k, o, s, hk, rfl, fun _ => rfl, fun h => absurd hg0 h⟩⟩
                · rw [if_neg hml, if_neg (fun h => hml h.1)]
                  simp only [VR, Option.map_some, add_addr]
                  exact ⟨_, _, rfl, by omega, .inl ⟨k, o, s, hk, by rw [Nat.add_assoc], fun _ => rfl, fun h => absurd hg0 h⟩⟩
              · have hgs : g = size := hg.resolve_left hg0
                subst hgs
                obtain ⟨e3, e4⟩ := e2 hg0
                rw [if_neg (fun h => hg0 h.2)]
                simp only [VR, Option.map_some]
                by_cases hml : c = l
                · rw [if_pos hml]
                  exact ⟨_, _, rfl, by omega, .inr ⟨by omega, by omega, by omega⟩⟩
                · rw [if_neg hml, add_addr]
                  refine ⟨_, _, rfl, by omega, .inl ⟨k, o, s, hk, by rw [Nat.add_assoc], fun h => absurd h hg0, fun _ => ⟨by omega, ?_⟩⟩⟩
                  have hlc : l ≤ c := by omega
                  have : (c - l) * g + l * g = c * g := by rw [← Nat.add_mul, Nat.sub_add_cancel hlc]
                  omega
          · have hm0 : m = 0 := by omega
            have hh0 : hh = 0 := by omega
            have hl0 : l = 0 := by omega
            subst hm0; subst hl0; subst hh0
            have e : ∀ (q : Option (Nat × Nat)) (g' : Nat) (y : Addr), q.isSome = true → VR ρ (.sl q 0 0 g') (.slice (some y) 0 0) := fun q g' y hq => by
              cases q with
              | none => cases hq
              | some q => simp only [VR]; exact ⟨y, 0, rfl, Nat.le_refl 0, .inr (by simp)⟩
            simp only [Nat.sub_self, ite_self]
            have e2 : (if (if mx.isSome = true then 0 else 0) = 0 then some xa else (some xa).map (·.add (0 * size))) = some xa := by simp
            first
              | (refine e _ _ xa ?_; (repeat' split) <;> rfl)
              | (simp only [if_true]; refine e _ _ xa ?_; (repeat' split) <;> rfl)
      · cases h
    · cases h
  · cases h

theorem lk_fadd {s : TypeId} {fields : Array Field} (hs : P.underlying s = some (.struct fields)) {f : Nat} {fd : Field} (hf : fields[f]? = some fd) {n : Nat} (hn : tsize P fd.type = some n) (h0 : 0 < n)
    {x : AV} {a : Value} (hx : VR ρ x a) {v : AV} (h : (match (generalizing := false) x with | .p (some (b, o)) => some (AV.p (some (b, o + fd.offset))) | _ => none) = some v) : Lk P w ρ (Instr.fieldAt s a f) v := by
  split at h
  · rename_i b o
    obtain ⟨k, o', s', hk, rfl⟩ := VR_p hx
    simp only [Option.some.injEq] at h; subst h
    refine ⟨.pointer (some ⟨k, o' + o + fd.offset, none⟩), ?_, ?_⟩
    · simp only [Instr.fieldAt, Sem.run_bind, run_underlying hs, Result.andThen_ok, hf, Instr.sureAddr, Sem.run_pure, fieldPlace, run_sizeOf hn]
      rw [if_neg (by omega)]
      simp [add_addr]
    · simp only [VR]; exact ⟨k, o', s', hk, by rw [Nat.add_assoc]⟩
  · cases h

theorem lk_iarr {t e : TypeId} {len : Nat} (hs : P.underlying t = some (.array len e)) {n : Nat} (hn : tsize P e = some n) {x i : AV} {a b : Value} (hx : VR ρ x a) (hi : VR ρ i b) {v : AV}
    (h : (match (generalizing := false) x, i with | .p (some (b, o)), .i _ m => if 0 ≤ m ∧ m < (len : Int) then some (AV.p (some (b, o + m.toNat * n))) else none | _, _ => none) = some v) : Lk P w ρ (Instr.indexAt t a b) v := by
  split at h
  · rename_i bb o k m
    obtain ⟨kk, o', s', hk, rfl⟩ := VR_p hx
    rw [VR_i hi]
    split at h
    · rename_i hm
      simp only [Option.some.injEq] at h; subst h
      refine ⟨.pointer (some ⟨kk, o' + o + m.toNat * n, none⟩), ?_, ?_⟩
      · simp only [Instr.indexAt, Sem.run_bind, run_asIntOf, run_underlying hs, Result.andThen_ok, Instr.sureAddr, Sem.run_pure]
        rw [if_pos hm]
        simp [run_sizeOf hn, add_addr]
      · simp only [VR]; exact ⟨kk, o', s', hk, by rw [Nat.add_assoc]⟩
    · cases h
  · cases h

theorem lk_isl {t e : TypeId} (hs : P.underlying t = some (.slice e)) {n : Nat} (hn : tsize P e = some n) {x i : AV} {a b : Value} (hx : VR ρ x a) (hi : VR ρ i b) {v : AV}
    (h : (match (generalizing := false) x, i with | .sl (some (b, o)) len _ _, .i _ m => if 0 ≤ m ∧ m < (len : Int) then some (AV.p (some (b, o + m.toNat * n))) else none | _, _ => none) = some v) : Lk P w ρ (Instr.indexAt t a b) v := by
  split at h
  · rename_i bb o len cap g k m
    rw [VR_i hi]
    simp only [VR] at hx
    obtain ⟨y, c, rfl, hlc, hx⟩ := hx
    split at h
    · rename_i hm
      simp only [Option.some.injEq] at h; subst h
      rcases hx with ⟨kk, o', s', hk, rfl, _⟩ | ⟨e1, _, _⟩
      · refine ⟨.pointer (some ⟨kk, o' + o + m.toNat * n, none⟩), ?_, ?_⟩
        · simp only [Instr.indexAt, Sem.run_bind, run_asIntOf, run_underlying hs, Result.andThen_ok, Sem.run_pure]
          rw [if_pos hm]
          simp [run_sizeOf hn, add_addr]
        · simp only [VR]; exact ⟨kk, o', s', hk, by rw [Nat.add_assoc]⟩
      · omega
    · cases h
  · cases h

theorem lk_cb2s (hR : Rel P B w0 ρ H w) {src dst : TypeId} {e : TypeId} (hs : P.underlying src = some (.slice e)) (hd : P.underlying dst = some .string) (he : P.underlying e = some (.int .u8)) {x : AV} {a : Value} (hx : VR ρ x a) {v : AV}
    (h : (match (generalizing := false) x with
      | .sl none _ _ _ => some (AV.s .empty)
      | .sl (some (b, o)) len _ _ =>
        if len = 0 then some (AV.s .empty) else
        match H.get b with
        | some (.cells c _) => match takeAt c o len with | some l => (bytesOf l).map fun l => AV.s ⟨l.toArray⟩ | none => none
        | _ => none
      | _ => none) = some v) : Lk P w ρ (Go.convert src dst a) v := by
  have hconv : ∀ (q : Option Addr) (n m : Nat), (Go.convert src dst (.slice q n m)).run P w = (Conv.bytesToString (.slice q n m)).run P w := fun q n m => by
    simp [Go.convert, run_underlying hs, run_underlying hd, run_underlying he]
  split at h
  · rename_i len cap g
    simp only [VR] at hx
    obtain ⟨rfl, rfl, rfl⟩ := hx
    simp only [Option.some.injEq] at h; subst h
    exact ⟨.string .empty, by rw [hconv]; simp [Conv.bytesToString], by simp only [VR]⟩
  · rename_i b o len cap g
    simp only [VR] at hx
    obtain ⟨y, c, rfl, hlc, hx⟩ := hx
    split at h
    · rename_i h0
      subst h0
      simp only [Option.some.injEq] at h; subst h
      have hr := run_loadCells (P := P) (w := w) (a := y) [] (fun j v e => by simp at e)
      refine ⟨.string .empty, ?_, by simp only [VR]⟩
      rw [hconv]
      simp only [Conv.bytesToString, Sem.run_bind]
      rw [show (loadCells y 0).run P w = .ok #[] w from hr]
      simp
    split at h
    · rename_i cc mu hb
      obtain ⟨k2, o2, s2, cs, t2, fr, hk2, hw, hs2, hc, _⟩ := hR.blk _ _ hb
      split at h
      · rename_i l hl
        simp only [Option.map_eq_some_iff] at h
        obtain ⟨bs, hbs, rfl⟩ := h
        have hload : ∃ vs : List Value, VRL ρ l vs ∧ (loadCells y len).run P w = .ok vs.toArray w := by
          rcases hx with ⟨kk, o', s', hk, rfl, _⟩ | ⟨e1, _, _⟩
          · replace hk : ρ b = some (kk, o', s') := hk
            rw [hk] at hk2; cases hk2
            exact run_loadCells_of hw hc hl
          · subst e1
            obtain ⟨h1, rfl, h3⟩ := takeAt_some hl
            refine ⟨[], by simpa using VRL_nil, ?_⟩
            exact run_loadCells (P := P) (w := w) (a := y) [] (fun j v e => by simp at e)
        obtain ⟨vs, hv, hr⟩ := hload
        refine ⟨.string ⟨bs.toArray⟩, ?_, by simp only [VR]⟩
        rw [hconv]
        have key : ∀ (l : List AV) (vs : List Value) (bs : List UInt8) (acc : ByteArray), VRL ρ l vs → bytesOf l = some bs →
            (forIn vs acc (fun c (r : ByteArray) => do
              match c with
              | .int .u8 n => pure (ForInStep.yield (r.push (UInt8.ofNat n.toNat)))
              | _ => do
                stuck "bytesToString: byte expected"
                pure (ForInStep.yield r)) : Sem ByteArray).run P w = .ok (bs.foldl (fun s b => s.push b) acc) w := by
          intro l
          induction l with
          | nil => intro vs bs acc hv hb; rw [VRL_nil_iff] at hv; subst hv; simp [bytesOf] at hb; subst hb; rfl
          | cons x l ih =>
            intro vs bs acc hv hb
            rw [VRL_cons_iff] at hv
            obtain ⟨u, us, rfl, hu, hv⟩ := hv
            cases x with
            | i k n =>
              cases k <;> simp only [bytesOf, reduceCtorEq] at hb
              simp only [Option.map_eq_some_iff] at hb
              obtain ⟨bs', hb', rfl⟩ := hb
              rw [VR_i hu]
              simp only [List.forIn_cons, Sem.run_bind, Sem.run_pure, Result.andThen_ok, List.foldl_cons]
              exact ih us bs' _ hv hb'
            | _ => simp [bytesOf] at hb
        have fin : ∀ (bs : List UInt8) (acc : ByteArray), bs.foldl (fun s b => s.push b) acc = ⟨acc.data ++ bs.toArray⟩ := by
          intro bs
          induction bs with
          | nil => intro acc; simp
          | cons b bs ih => intro acc; rw [List.foldl_cons, ih]; simp [ByteArray.push, Array.push_append]
        have hk := key l vs bs ByteArray.empty hv hbs
        rw [fin] at hk
        simp only [Conv.bytesToString, Sem.run_bind, hr, Result.andThen_ok]
        have e2 : (⟨ByteArray.empty.data ++ bs.toArray⟩ : ByteArray) = ⟨bs.toArray⟩ := by simp [ByteArray.empty, ByteArray.emptyWithCapacity]; rfl
        rw [e2] at hk
        simp only [List.forIn_toArray]
        exact congrArg (fun r => Result.andThen r fun a w' => Result.ok (Value.string a) w') hk
      · cases h
    · cases h
  · cases h

theorem keyEq_now {kt : TypeId} {kd : Nat} (hk : kindOf P kt = some kd) {d : TypeDesc} (hd : P.underlying kt = some d) {a b : AV} {x y : Value} (ha : VR ρ a x) (hb : VR ρ b y) {r : Bool} (h : keyEq kd a b = some r) :
    Instr.sameNow d x y = some r := by
  unfold kindOf at hk
  rw [hd] at hk
  unfold keyEq at h
  split at h
  · rw [VR_i ha, VR_i hb]
    cases d <;> simp at hk
    split at h
    · rename_i e; subst e; simp at h; subst h; simp [Instr.sameNow, BEq.beq]
    · cases h
  · rw [VR_s ha, VR_s hb]
    cases d <;> simp at hk
    simp at h; subst h; simp [Instr.sameNow]
  · rw [VR_b ha, VR_b hb]
    cases d <;> simp at hk
    simp at h; subst h; simp [Instr.sameNow]
  · cases h

theorem kindOf_ne3 {kt : TypeId} {kd : Nat} (hk : kindOf P kt = some kd) : kd ≠ 3 := by
  unfold kindOf at hk
  split at hk
  all_goals first | (simp only [Option.some.injEq] at hk; omega) | cases hk
theorem keyEqH_flat {H : AH} {kd : Nat} (h : kd ≠ 3) (x y : AV) : keyEqH H kd x y = keyEq kd x y := by
  unfold keyEqH
  split
  · exact absurd rfl h
  · rfl
theorem kindM_cases {kt : TypeId} {kd : Nat} (hk : kindM P kt = some kd) : kindOf P kt = some kd ∨ (kd = 3 ∧ ∃ e i, P.underlying kt = some (.pointer e) ∧ P.info? e = some i ∧ i.size ≠ 0) := by
  unfold kindM at hk
  split at hk
  · rename_i e he
    split at hk
    · rename_i i hi
      split at hk
      · rename_i hs; simp only [Option.some.injEq] at hk; exact .inr ⟨hk.symm, e, i, he, hi, hs⟩
      · cases hk
    · cases hk
  · exact .inl hk
theorem mfind_now {H : AH} {kt : TypeId} {kd : Nat} (hk : kindOf P kt = some kd) {d : TypeDesc} (hd : P.underlying kt = some d) {k : AV} {x : Value} (hx : VR ρ k x) :
    ∀ {es : List (AV × AV × Nat)} {fs : List MapEntry} {i : Nat} {r : Option (Nat × AV)}, entR ρ es fs → mfind H kd k es i = some r →
      ∃ r', Instr.findNow d x fs i = some r' ∧ (match r with | none => r' = none | some (j, v) => ∃ c, r' = some (j, c) ∧ VR ρ v c ∧ i ≤ j ∧ j < i + es.length ∧ ∃ e f, es[j - i]? = some e ∧ fs[j - i]? = some f ∧ keyEqH H kd k e.1 = some true)
  | [], fs, i, r, he, h => by
    simp only [entR] at he; subst he
    simp [mfind] at h; subst h
    exact ⟨none, rfl, rfl⟩
  | (a, v, q) :: es, fs, i, r, he, h => by
    simp only [entR] at he
    obtain ⟨f, fs, rfl, ha, hv, hq, he⟩ := he
    simp only [mfind] at h
    cases hkq : keyEqH H kd k a with
    | none => simp [hkq] at h
    | some b =>
      have := keyEq_now hk hd hx ha (by rw [← keyEqH_flat (H := H) (kindOf_ne3 hk)]; exact hkq)
      cases b with
      | true =>
        simp [hkq] at h; subst h
        exact ⟨some (i, f.val), by simp [Instr.findNow, this], f.val, rfl, hv, Nat.le_refl _, by simp, (a, v, q), f, by simp, by simp, hkq⟩
      | false =>
        simp only [hkq] at h
        obtain ⟨r', hr', hm⟩ := mfind_now hk hd hx he h
        refine ⟨r', by simp [Instr.findNow, this, hr'], ?_⟩
        cases r with
        | none => exact hm
        | some p =>
          obtain ⟨j, u⟩ := p
          obtain ⟨c, hc, hu, h1, h2, e, g, e1, e2, e3⟩ := hm
          refine ⟨c, hc, hu, by omega, by simp; omega, e, g, ?_, ?_, e3⟩
          · rw [show j - i = (j - (i + 1)) + 1 by omega]; simpa using e1
          · rw [show j - i = (j - (i + 1)) + 1 by omega]; simpa using e2

theorem kindOf_und {kt : TypeId} {kd : Nat} (hk : kindOf P kt = some kd) : ∃ d, P.underlying kt = some d ∧ ((∃ q, d = .int q) ∨ d = .string ∨ d = .bool) := by
  unfold kindOf at hk
  split at hk
  · rename_i q h; exact ⟨_, h, .inl ⟨q, rfl⟩⟩
  · rename_i h; exact ⟨_, h, .inr (.inl rfl)⟩
  · rename_i h; exact ⟨_, h, .inr (.inr rfl)⟩
  · cases hk
theorem kindM_und {kt : TypeId} {kd : Nat} (hk : kindM P kt = some kd) : ∃ d, P.underlying kt = some d ∧ ((∃ q, d = .int q) ∨ d = .string ∨ d = .bool ∨ ∃ e, d = .pointer e) := by
  rcases kindM_cases hk with h | ⟨_, e, _, h, _⟩
  · obtain ⟨d, h1, h2⟩ := kindOf_und h
    exact ⟨d, h1, by rcases h2 with h2 | h2 | h2; exact .inl h2; exact .inr (.inl h2); exact .inr (.inr (.inl h2))⟩
  · exact ⟨_, h, .inr (.inr (.inr ⟨e, rfl⟩))⟩

theorem run_checkKey {kt : TypeId} {kd : Nat} (hk : kindM P kt = some kd) (b : Bool) (x : Value) (n : Nat) : (Instr.checkKey b (n + 1) kt x).run P w = .ok () w := by
  obtain ⟨d, hd, h⟩ := kindM_und hk
  unfold Instr.checkKey
  simp only [Sem.run_bind, run_underlying hd, Result.andThen_ok]
  rcases h with ⟨q, rfl⟩ | rfl | rfl | ⟨e, rfl⟩ <;> rfl

/-- Two pointers as keys, in the model. -/
theorem keyPtr_now (hR : Rel P B w0 ρ H w) {kt e : TypeId} {ti : TypeInfo} (hp : P.underlying kt = some (.pointer e)) (hte : P.info? e = some ti) (hsz : ti.size ≠ 0) {a b : AV} {x y : Value} (ha : VR ρ a x) (hb : VR ρ b y) {r : Bool} (h : keyEqH H 3 a b = some r) :
    (Op.equal kt x y).run P w = .ok r w := by
  have key : ∀ (p q : Addr), (sameAddr p q).run P w = .ok r w → (Op.equal kt (.pointer (some p)) (.pointer (some q))).run P w = .ok r w := fun p q hs => by
    have h9 : ∀ d : Nat, (Op.equalIn (d + 1) kt (.pointer (some p)) (.pointer (some q))).run P w = .ok r w := fun d => by
      simp [Op.equalIn, run_underlying hp, sizeOf, typeInfo, hte, hsz, hs]
    exact h9 9999
  unfold keyEqH at h
  split at h
  · rename_i m n _
    obtain ⟨k1, o1, s1, e1, rfl⟩ := VR_p ha
    obtain ⟨k2, o2, s2, e2, rfl⟩ := VR_p hb
    refine key _ _ ?_
    split at h
    · rename_i hmn
      simp only [Option.some.injEq] at h
      rw [hmn] at e1
      rw [e1] at e2
      simp only [Option.some.injEq, Prod.mk.injEq] at e2
      obtain ⟨rfl, rfl, rfl⟩ := e2
      have hd : decide (m.2 = n.2) = ((⟨k1, o1 + m.2, none⟩ : Addr) == ⟨k1, o1 + n.2, none⟩) := by
        by_cases hq : m.2 = n.2
        · rw [hq]; simp
        · rw [decide_eq_false hq]; symm
          exact beq_eq_false_iff_ne.2 (fun h9 => hq (by have := congrArg Addr.off h9; simp only at this; omega))
      rw [← h, hd]
      simp [sameAddr]
    · rename_i hmn
      split at h
      · rename_i hap
        simp only [Option.some.injEq] at h
        subst h
        unfold AH.apart at hap
        split at hap
        · rename_i c1 c2 g1 g2
          obtain ⟨k3, o3, s3, cs1, t1, fr1, q1, hw1, _, _, _, hm1⟩ := hR.blk _ _ g1
          obtain ⟨k4, o4, s4, cs2, t2, fr2, q2, hw2, _, _, _, hm2⟩ := hR.blk _ _ g2
          rw [e1] at q1; rw [e2] at q2
          simp only [Option.some.injEq, Prod.mk.injEq] at q1 q2
          obtain ⟨rfl, rfl, rfl⟩ := q1
          obtain ⟨rfl, rfl, rfl⟩ := q2
          have f1 := (hm1 rfl).2
          have f2 := (hm2 rfl).2
          subst f1; subst f2
          have hk := hR.mu _ _ _ _ _ _ _ _ _ _ g1 g2 hmn rfl e1 e2
          exact run_sameAddr_other w (fun h9 => hk (congrArg Addr.block h9)) hw1 hw2
        · cases hap
      · cases h
  · have h3 : ∀ u v : AV, keyEq 3 u v = none := fun u v => by first | rfl | (cases u <;> cases v <;> rfl)
    rw [h3] at h
    cases h

theorem mfind_ask (hR : Rel P B w0 ρ H w) {kt e : TypeId} {ti : TypeInfo} (hp : P.underlying kt = some (.pointer e)) (hte : P.info? e = some ti) (hsz : ti.size ≠ 0) {k : AV} {x : Value} (hx : VR ρ k x) :
    ∀ {es : List (AV × AV × Nat)} {fs : List MapEntry} {i : Nat} {r : Option (Nat × AV)}, entR ρ es fs → mfind H 3 k es i = some r →
      ∃ r', (Instr.findAsking kt x fs i).run P w = .ok r' w ∧ (match r with | none => r' = none | some (j, v) => ∃ c, r' = some (j, c) ∧ VR ρ v c ∧ i ≤ j ∧ j < i + es.length ∧ ∃ e f, es[j - i]? = some e ∧ fs[j - i]? = some f ∧ keyEqH H 3 k e.1 = some true)
  | [], fs, i, r, he, h => by
    simp only [entR] at he; subst he
    simp [mfind] at h; subst h
    exact ⟨none, by simp [Instr.findAsking], rfl⟩
  | (a, v, q) :: es, fs, i, r, he, h => by
    simp only [entR] at he
    obtain ⟨f, fs, rfl, ha, hv, hq, he⟩ := he
    simp only [mfind] at h
    cases hkq : keyEqH H 3 k a with
    | none => simp [hkq] at h
    | some b =>
      have := keyPtr_now hR hp hte hsz hx ha hkq
      cases b with
      | true =>
        simp [hkq] at h; subst h
        exact ⟨some (i, f.val), by simp [Instr.findAsking, this], f.val, rfl, hv, Nat.le_refl _, by simp, (a, v, q), f, by simp, by simp, hkq⟩
      | false =>
        simp only [hkq] at h
        obtain ⟨r', hr', hm⟩ := mfind_ask hR hp hte hsz hx he h
        refine ⟨r', by simp [Instr.findAsking, this, hr'], ?_⟩
        cases r with
        | none => exact hm
        | some p =>
          obtain ⟨j, u⟩ := p
          obtain ⟨c, hc, hu, h1, h2, e, g, e1, e2, e3⟩ := hm
          refine ⟨c, hc, hu, by omega, by simp; omega, e, g, ?_, ?_, e3⟩
          · rw [show j - i = (j - (i + 1)) + 1 by omega]; simpa using e1
          · rw [show j - i = (j - (i + 1)) + 1 by omega]; simpa using e2

theorem run_findKey (hR : Rel P B w0 ρ H w) {kt : TypeId} {kd : Nat} (hk : kindM P kt = some kd) {k : AV} {x : Value} (hx : VR ρ k x) {es : List (AV × AV × Nat)} {fs : List MapEntry} {r : Option (Nat × AV)} (he : entR ρ es fs) (h : mfind H kd k es 0 = some r) :
    ∃ r', (Instr.findKey kt x fs).run P w = .ok r' w ∧ (match r with | none => r' = none | some (j, v) => ∃ c, r' = some (j, c) ∧ VR ρ v c ∧ j < es.length ∧ ∃ e f, es[j]? = some e ∧ fs[j]? = some f ∧ keyEqH H kd k e.1 = some true) := by
  rcases kindM_cases hk with hk | ⟨rfl, e, ti, hp, hte, hsz⟩
  · obtain ⟨d, hd, _⟩ := kindOf_und hk
    obtain ⟨r', hr', hm⟩ := mfind_now hk hd hx he h
    refine ⟨r', by simp [Instr.findKey, run_underlying hd, hr'], ?_⟩
    cases r with
    | none => exact hm
    | some p => obtain ⟨j, v⟩ := p; simpa using hm
  · obtain ⟨r', hr', hm⟩ := mfind_ask hR hp hte hsz hx he h
    refine ⟨r', ?_, ?_⟩
    · cases fs with
      | nil =>
        simp [Instr.findAsking] at hr'
        simp [Instr.findKey, run_underlying hp, Instr.findNow, hr']
      | cons f fs =>
        have hn : Instr.findNow (.pointer e) x (f :: fs) 0 = none := by simp [Instr.findNow, Instr.sameNow]
        simp only [Instr.findKey, Sem.run_bind, run_underlying hp, Result.andThen_ok, hn]
        exact hr'
    · cases r with
      | none => exact hm
      | some p => obtain ⟨j, v⟩ := p; simpa using hm

theorem lk_lookup (hR : Rel P B w0 ρ H w) {t kt e : TypeId} (hs : P.underlying t = some (.map kt e)) {kd : Nat} (hk : kindM P kt = some kd) {ti : TypeInfo} (hi : P.info? e = some ti) {zv : Value} (hz : ti.zero = some zv) {z : AV} (hza : absV zv = some z)
    {x k : AV} {a b : Value} (hx : VR ρ x a) (hkv : VR ρ k b) (ok : Bool) {v : AV}
    (h : (match (match (generalizing := false) x with
      | .m none => some none
      | .m (some r) => match H.get r with | some (.map es _) => (mfind H kd k es 0).map fun o => o.map (·.2) | _ => none
      | _ => none) with
    | some (some v) => some (if ok then AV.tup [v, .b true] else v)
    | some none => some (if ok then AV.tup [z, .b false] else z)
    | none => none) = some v) : Lk P w ρ (Instr.lookup t a b ok) v := by
  have hzero : (zeroValue e).run P w = .ok zv w := by simp [zeroValue, run_typeInfo hi, hz]
  have hzv : VR ρ z zv := absV_ok hza
  have fin : ∀ (u : AV) (c : Value) (o : Bool), VR ρ u c → VR ρ (if ok = true then AV.tup [u, .b o] else u) (if ok = true then .tuple #[c, .bool o] else c) := fun u c o hu => by
    cases ok with
    | true => simp only [if_true, VR]; exact ⟨_, rfl, VRL_cons hu (VRL_cons (by simp [VR]) VRL_nil)⟩
    | false => simpa using hu
  cases x with
  | m r =>
    cases r with
    | none =>
      simp only [Option.some.injEq] at h; subst h
      simp only [VR] at hx; subst hx
      refine ⟨_, ?_, fin z zv false hzv⟩
      obtain ⟨d, hd, _⟩ := kindM_und hk
      simp [Instr.lookup, run_underlying hs, run_checkKey hk, Instr.findKey, run_underlying hd, Instr.findNow, hzero]
    | some r =>
      simp only [VR] at hx
      obtain ⟨q, o, s, hq, rfl⟩ := hx
      simp only at h
      cases hb : H.get r with
      | none => simp [hb] at h
      | some bl =>
        cases bl with
        | cells _ _ => simp [hb] at h
        | loop _ _ _ _ _ _ => simp [hb] at h
        | map es cl =>
          simp only [hb] at h
          obtain ⟨q2, o2, s2, es', hq2, hw, _, hent⟩ := hR.blk _ _ hb
          rw [hq] at hq2; cases hq2
          cases hf : mfind H kd k es 0 with
          | none => simp [hf] at h
          | some res =>
            simp only [hf, Option.map_some] at h
            obtain ⟨r', hr', hm⟩ := run_findKey (P := P) (w := w) hR hk hkv hent hf
            have hget : (getObj q).run P w = .ok (.map es' cl) w := by simp [getObj, Sem.run, hw]
            cases res with
            | none =>
              simp only [Option.map_none, Option.some.injEq] at h; subst h
              simp only at hm; subst hm
              refine ⟨_, ?_, fin z zv false hzv⟩
              simp [Instr.lookup, run_underlying hs, run_checkKey hk, hget, hr', hzero]
            | some p =>
              obtain ⟨j, u⟩ := p
              simp only [Option.map_some, Option.some.injEq] at h; subst h
              obtain ⟨c, rfl, hc, _⟩ := hm
              refine ⟨_, ?_, fin u c true hc⟩
              simp [Instr.lookup, run_underlying hs, run_checkKey hk, hget, hr']
  | _ => simp at h
end
end Go.Proofs.Ytjheedfobmlalaa.E
