/- What makes a new block: in the evaluator and on the machine. It bears no condition. -/
import Derived.Test.YtjheedfobmlalaaE8
namespace Go.Proofs.Ytjheedfobmlalaa.E
open Go.RowKit (Below)
set_option linter.unusedVariables false
set_option linter.unusedSimpArgs false

def Rho.upd (ρ : Rho) (n : Nat) (x : Nat × Nat × Nat) : Rho := fun m => if m = n then some x else ρ m

section
variable {P : Program} {B : Nat} {w0 w : World} {ρ : Rho} {H : AH} {N : Nat} {T : Tm} {tmps : Array Value} {ds : List Deferred}

theorem Rho.upd_ext {n : Nat} {x : Nat × Nat × Nat} (h : ρ n = none) : Ext ρ (ρ.upd n x) := fun m y e => by
  unfold Rho.upd
  by_cases hm : m = n
  · subst hm; rw [h] at e; cases e
  · rw [if_neg hm]; exact e
theorem Rho.upd_same {n : Nat} {x : Nat × Nat × Nat} : ρ.upd n x n = some x := by simp [Rho.upd]

/-- A world with one block more. -/
def World.more (w : World) (o : Obj) (d : Nat) : World := { w with heap := w.heap.push o, drawn := d }

theorem more_old (o : Obj) (d : Nat) {k : Nat} (h : k < w.heap.size) : (World.more w o d).heap[k]? = w.heap[k]? := by
  show (w.heap.push o)[k]? = _
  rw [Array.getElem?_push, if_neg (by omega)]
theorem more_new (o : Obj) (d : Nat) : (World.more w o d).heap[w.heap.size]? = some o := by
  show (w.heap.push o)[w.heap.size]? = _
  simp

/-- A fact on a block stays in a world where the block lies as it lay. -/
theorem BR.keep {ρ' : Rho} {w' : World} (he : Ext ρ ρ') {n : Nat} {b : Blk} (h : BR P B ρ w n b) (hs : ∀ k o s, ρ n = some (k, o, s) → w'.heap[k]? = w.heap[k]?) : BR P B ρ' w' n b := by
  cases b with
  | cells c mu =>
    obtain ⟨k, o, s, cs, t, fr, e, hw, hz, hc, ho, hm⟩ := h
    exact ⟨k, o, s, cs, t, fr, he _ _ e, by rw [hs _ _ _ e]; exact hw, hz, CR_mono he hc, ho, hm⟩
  | map es cl =>
    obtain ⟨k, o, s, es', e, hw, hz, hc⟩ := h
    exact ⟨k, o, s, es', he _ _ e, by rw [hs _ _ _ e]; exact hw, hz, entR_mono he hc⟩
  | loop st pend ps asg body T =>
    obtain ⟨k, o, s, r, N, e, hw, hz, h1, h2, h3, h4, h5, h6, h8, h7⟩ := h
    exact ⟨k, o, s, r, N, he _ _ e, by rw [hs _ _ _ e]; exact hw, hz, h1, h2, h3, h4, h5, h6, h8, TR_mono he h7⟩

/-- One block more, that has a name. -/
theorem Rel.more (hR : Rel P B w0 ρ H w) (o : Obj) (d s : Nat) {b : Blk} (hb : ∀ ρ', Ext ρ ρ' → ρ' H.next = some (w.heap.size, 0, s) → BR P B ρ' (World.more w o d) H.next b) :
    Rel P B w0 (ρ.upd H.next (w.heap.size, 0, s)) (H.alloc b) (World.more w o d) ∧ St ρ H w (ρ.upd H.next (w.heap.size, 0, s)) (H.alloc b) (World.more w o d) := by
  have hn : ρ H.next = none := hR.dom _ (Nat.le_refl _)
  have he : Ext ρ (ρ.upd H.next (w.heap.size, 0, s)) := Rho.upd_ext hn
  have hBw : B ≤ w.heap.size := Nat.le_trans hR.hB hR.below.size
  refine ⟨⟨hR.hB, ?_, ?_, ?_, ?_, ?_, ?_⟩, ⟨he, ?_, Nat.le_succ _, ?_, ?_, fun n h1 => by rw [AH.get_alloc, if_neg (by have := h1.1; omega)]; exact h1.2, fun n h1 h2 => by unfold Rho.upd; rw [if_neg (by omega)]; exact h2⟩⟩
  · exact hR.below.trans ⟨rfl, rfl, rfl, by simp [World.more], fun k hk => more_old o d (by omega)⟩
  · intro n h
    simp only [AH.next_alloc] at h
    unfold Rho.upd
    rw [if_neg (by omega)]
    exact hR.dom n (by omega)
  · intro g hg
    obtain ⟨s', e⟩ := hR.glob g hg
    exact ⟨s', he _ _ e⟩
  · intro n b' h
    rw [AH.get_alloc] at h
    split at h
    · rename_i e; subst e
      simp only [Option.some.injEq] at h; subst h
      exact hb _ he Rho.upd_same
    · exact (hR.blk n b' h).keep he fun k o' s' e => more_old o d (hR.lt _ _ _ _ e)
  · intro n k o' s' h
    unfold Rho.upd at h
    show k < (w.heap.push o).size
    rw [Array.size_push]
    split at h
    · simp only [Option.some.injEq, Prod.mk.injEq] at h; omega
    · have := hR.lt _ _ _ _ h; omega
  · intro n b1 m b2 k o1 s1 k' o2 s2 h1 h2 hne hm e1 e2
    rw [AH.get_alloc] at h1 h2
    unfold Rho.upd at e1 e2
    by_cases c1 : H.next = n
    · by_cases c2 : H.next = m
      · omega
      · rw [if_neg c2] at h2
        rw [if_pos c1.symm] at e1
        rw [if_neg (fun h => c2 h.symm)] at e2
        simp only [Option.some.injEq, Prod.mk.injEq] at e1
        have := hR.lt _ _ _ _ e2
        omega
    · rw [if_neg c1] at h1
      rw [if_neg (fun h => c1 h.symm)] at e1
      by_cases c2 : H.next = m
      · rw [if_pos c2.symm] at e2
        simp only [Option.some.injEq, Prod.mk.injEq] at e2
        have := hR.lt _ _ _ _ e1
        omega
      · rw [if_neg c2] at h2
        rw [if_neg (fun h => c2 h.symm)] at e2
        exact hR.mu n b1 m b2 k o1 s1 k' o2 s2 h1 h2 hne hm e1 e2
  · simp [World.more]
  · intro k hk _; exact more_old o d hk
  · intro n k o' s' h hk
    unfold Rho.upd at h
    split at h
    · simp only [Option.some.injEq, Prod.mk.injEq] at h; omega
    · exact .inl h

theorem VRL_CR' {ρ : Rho} {c : List AV} {cs : Array Value} (h : VRL ρ c cs.toList) : CR ρ c cs 0 := fun i v e => by
  obtain ⟨cv, hc, hv⟩ := VRL_get h i v e
  exact ⟨cv, by simpa using hc, hv⟩

/-- A new row of cells. -/
theorem Rel.cells (hR : Rel P B w0 ρ H w) {c : List AV} {cs : Array Value} (h : CR ρ c cs 0) (ho : ∀ x ∈ c, AV.one x = true) (t : TypeId) (fr : Nat × Nat) (hfr : fr = (0, 0)) (d : Nat) :
    Rel P B w0 (ρ.upd H.next (w.heap.size, 0, cs.size)) (H.alloc (.cells c true)) (World.more w (.cells cs t fr) d) ∧ St ρ H w (ρ.upd H.next (w.heap.size, 0, cs.size)) (H.alloc (.cells c true)) (World.more w (.cells cs t fr) d) :=
  hR.more _ d cs.size fun ρ' he hn => ⟨w.heap.size, 0, cs.size, cs, t, fr, hn, more_new _ d, rfl, CR_mono he h, ho, fun _ => ⟨Nat.le_trans hR.hB hR.below.size, hfr⟩⟩

theorem run_newRow {t : TypeId} {cs : Array Value} : (newRow t cs).run P w = .ok ⟨w.heap.size, 0, none⟩ (World.more w (.cells cs t) w.drawn) := rfl

theorem VRL_repl : ∀ (n : Nat) {z : List AV} {l : List Value}, VRL ρ z l → VRL ρ (repl n z) ((List.range (n * l.length)).map fun i => l.toArray[i % l.length]!)
  | 0, z, l, h => by simpa [repl] using VRL_nil
  | n + 1, z, l, h => by
    have ih := VRL_repl n h
    simp only [repl]
    have e : (List.range ((n + 1) * l.length)).map (fun i => l.toArray[i % l.length]!) = l ++ (List.range (n * l.length)).map fun i => l.toArray[i % l.length]! := by
      rw [show (n + 1) * l.length = l.length + n * l.length by rw [Nat.add_mul]; omega, List.range_add, List.map_append]
      congr 1
      · apply List.ext_getElem
        · simp
        · intro i h1 h2
          simp at h1 h2
          simp [Nat.mod_eq_of_lt h1, h2]
      · rw [List.map_map]
        apply List.map_congr_left
        intro i _
        simp
    rw [e]
    exact VRL_append h ih

theorem repl_one {z : List AV} (h : ∀ x ∈ z, AV.one x = true) : ∀ n, ∀ x ∈ repl n z, AV.one x = true
  | 0, x, hx => by simp [repl] at hx
  | n + 1, x, hx => by
    simp only [repl, List.mem_append] at hx
    rcases hx with hx | hx
    · exact h x hx
    · exact repl_one h n x hx
theorem cBin_not {op : BinOp} {xt : TypeId} {x y : Operand} {q : XOp} (h : cBin P op xt x y = some q) : q.eff = false ∧ q.mk = false := by
  unfold cBin at h
  (repeat' split at h) <;> first | (cases h; done) | (simp only [Option.some.injEq] at h; subst h; exact ⟨rfl, rfl⟩)
theorem cBuiltin_not {b : Builtin} {ats : Array TypeId} {l : List Operand} {q : XOp} (h : cBuiltin P b ats l = some q) : q.make T = none := by
  unfold cBuiltin at h
  (repeat' split at h) <;> first | (cases h; done) | (simp only [Option.some.injEq] at h; subst h; rfl) | (simp only [Option.map_eq_some_iff] at h; obtain ⟨_, _, rfl⟩ := h; rfl) |
    (simp only [Option.bind_eq_some_iff] at h; obtain ⟨_, _, h⟩ := h; split at h <;> first | (cases h; done) | (simp only [Option.some.injEq] at h; subst h; rfl))

/-- What a make comes to, whatever name the block is given. -/
def MkOK (P : Program) (B : Nat) (ρ : Rho) (w : World) (s : Sem Next) (f : Nat → AV × Blk) : Prop :=
  ∃ c o d z, s.run P w = .ok (.value c) (World.more w o d) ∧ ∀ n ρ', Ext ρ ρ' → ρ' n = some (w.heap.size, 0, z) → VR ρ' (f n).1 c ∧ BR P B ρ' (World.more w o d) n (f n).2

/-- What makes a new block. -/
theorem make_raw (hR : Rel P B w0 ρ H w) (hT : TR ρ N T tmps) {o : Oper} {q : XOp} (hc : cOp P o.op = some q) {f : Nat → AV × Blk} (h : q.make T = some f) :
    MkOK P B ρ w (execOp (Act.eval ⟨tmps, ds⟩) o) f := by
  obtain ⟨dst, op, ty, pos, af, gd⟩ := o
  simp only at hc
  have fin : ∀ (s : Sem Value) (c : List AV) (cs : Array Value) (t : TypeId) (a : Value) (v : Nat → AV), VRL ρ c cs.toList → (∀ x ∈ c, AV.one x = true) → s.run P w = .ok a (World.more w (.cells cs t) w.drawn) →
      (∀ ρ' n, ρ' n = some (w.heap.size, 0, cs.size) → VR ρ' (v n) a) →
      MkOK P B ρ w (do pure (.value (← s)) : Sem Next) (fun n => (v n, .cells c true)) := fun s c cs t a v hv ho hr hvr => by
    refine ⟨a, .cells cs t, w.drawn, cs.size, by simp [hr], fun n ρ' he hn => ⟨hvr ρ' n hn, ?_⟩⟩
    exact ⟨w.heap.size, 0, cs.size, cs, t, (0, 0), hn, more_new _ _, rfl, CR_mono he (VRL_CR' hv), ho, fun _ => ⟨Nat.le_trans hR.hB hR.below.size, rfl⟩⟩
  have ptr : ∀ (ρ' : Rho) (s n : Nat), ρ' n = some (w.heap.size, 0, s) → VR ρ' (.p (some (n, 0))) (.pointer (some ⟨w.heap.size, 0, none⟩)) := fun ρ' s n e => by
    simp only [VR]; exact ⟨w.heap.size, 0, s, e, rfl⟩
  have slc : ∀ (ρ' : Rho) (s n m nm : Nat), n ≤ m → ρ' nm = some (w.heap.size, 0, s) → VR ρ' (.sl (some (nm, 0)) n m 0) (.slice (some ⟨w.heap.size, 0, none⟩) n m) := fun ρ' s n m nm hnm e => by
    simp only [VR]; exact ⟨_, _, rfl, hnm, .inl ⟨w.heap.size, 0, s, e, rfl, fun _ => rfl, fun h => absurd rfl h⟩⟩
  cases op with
  | alloc t =>
    simp only [cOp, Option.map_eq_some_iff] at hc
    obtain ⟨z, hz, rfl⟩ := hc
    simp only [XOp.make, Option.some.injEq] at h; subst h
    obtain ⟨zv, n, hzr, hzv, hone, _, _⟩ := run_zero (P := P) (w := w) (ρ := ρ) hz
    refine fin (Instr.alloc t true (.tuple #[])) z zv.cells t (.pointer (some ⟨w.heap.size, 0, none⟩)) _ hzv hone ?_ fun ρ' n e => ptr ρ' _ n e
    simp only [Instr.alloc, Sem.run_bind, hzr, Result.andThen_ok, newVar, run_newRow, Sem.run_pure]
  | box t x =>
    simp only [cOp, Option.map_eq_some_iff] at hc
    obtain ⟨a, ha, rfl⟩ := hc
    simp only [XOp.make, Option.map_eq_some_iff] at h
    obtain ⟨c, hc, rfl⟩ := h
    obtain ⟨hv, ho⟩ := cellsOf_ok (cX_ok (ds := ds) hR hT ha) hc
    refine fin (Instr.box t (Act.eval ⟨tmps, ds⟩ x)) _ _ t (.pointer (some ⟨w.heap.size, 0, none⟩)) _ hv ho ?_ fun ρ' n e => ptr ρ' _ n e
    simp only [Instr.box, Sem.run_bind, newVar, run_newRow, Result.andThen_ok, Sem.run_pure]
  | buildSlice t len parts =>
    simp only [cOp] at hc
    split at hc
    · rename_i e hs
      split at hc
      · rename_i n z l hn hz hl
        split at hc
        · rename_i hsz
          simp only [Option.some.injEq] at hc; subst hc
          simp only [XOp.make, Option.map_eq_some_iff] at h
          obtain ⟨c, hf, rfl⟩ := h
          obtain ⟨zv, n2, hzr, hzv, hzo, hn2, hzl⟩ := run_zero (P := P) (w := w) (ρ := ρ) hz
          rw [hn] at hn2; cases hn2
          have hl' : placesA P n parts.toList = some l := by simpa [hn] using hl
          have hparts : (parts.map fun (i, x) => (i, Act.eval ⟨tmps, ds⟩ x)).toList = parts.toList.map fun p => (p.1, Act.eval ⟨tmps, ds⟩ p.2) := by simp
          have hzl2 : zv.cells.toList.length = n := by rw [← VRL_len hzv]; exact hzl
          have hzs : zv.cells.size = n := by simpa using hzl2
          have hrow : VRL ρ (repl len z) ((Array.range (len * n)).map (fun i => (if len * n = 0 then #[] else zv.cells)[i % (if len * n = 0 then #[] else zv.cells).size]!)).toList := by
            have := VRL_repl len hzv
            rw [hzl2] at this
            by_cases h0 : len * n = 0
            · rw [h0] at this ⊢; simpa using this
            · simp only [if_neg h0]
              simpa [hzs] using this
          obtain ⟨cs, hfill, hv, ho⟩ := fill_ok (placesA_ok (ds := ds) hR hT hl') hf hrow (repl_one hzo len)
          refine fin (Instr.buildSlice t len _) c cs e (.slice (some ⟨w.heap.size, 0, none⟩) len len) _ hv ho ?_ fun ρ' nm e => slc ρ' _ _ _ nm (Nat.le_refl _) e
          simp only [Instr.buildSlice, Sem.run_bind, run_underlying hs, Result.andThen_ok, run_sizeOf hn]
          rw [if_neg (by omega)]
          by_cases h0 : len * n = 0
          · simp only [h0, if_true, Sem.run_bind, Sem.run_pure, Result.andThen_ok] at hfill ⊢
            simp only [hparts, hfill, Sem.run_bind, run_newRow, Result.andThen_ok, Sem.run_pure]
          · simp only [if_neg h0, Sem.run_bind, hzr, Sem.run_pure, Result.andThen_ok] at hfill ⊢
            simp only [hparts, hfill, Sem.run_bind, run_newRow, Result.andThen_ok, Sem.run_pure]
        · cases hc
      · cases hc
    · cases hc
  | makeMap t r =>
    have key : q = .mkmap → (Instr.makeMap t (r.map (Act.eval ⟨tmps, ds⟩))).run P w = .ok (.map (some w.heap.size)) (World.more w (.map #[] 0) w.drawn) →
        MkOK P B ρ w (execOp (Act.eval ⟨tmps, ds⟩) ⟨dst, .makeMap t r, ty, pos, af, gd⟩) f := by
      rintro rfl hr
      simp only [XOp.make, Option.some.injEq] at h; subst h
      exact ⟨.map (some w.heap.size), .map #[] 0, w.drawn, 0, by simp [execOp, hr], fun n ρ' he hn => ⟨by simp only [VR]; exact ⟨_, _, _, hn, rfl⟩, w.heap.size, 0, 0, #[], hn, more_new _ _, Nat.le_trans hR.hB hR.below.size, by simp [entR]⟩⟩
    simp only [cOp] at hc
    split at hc
    · simp only [Option.some.injEq] at hc
      exact key hc.symm rfl
    · rename_i k n k2 e2 hs
      simp only [Option.some.injEq] at hc
      refine key hc.symm ?_
      simp only [Instr.makeMap, Option.map_some, Act.eval, Sem.run_bind, run_underlying hs, Result.andThen_ok, asInt, run_asIntOf, Sem.run_pure, run_newObj]
      rfl
    · cases hc
  | makeSlice t l c =>
    simp only [cOp] at hc
    split at hc
    · rename_i e a b hs h1 h2
      split at hc
      · rename_i z m n hz hm hn
        split at hc
        · rename_i h0
          simp only [Option.some.injEq] at hc; subst hc
          simp only [XOp.make] at h
          split at h
          · rename_i k1 x k2 y e1 e2
            split at h
            · rename_i hh
              simp only [Option.some.injEq] at h; subst h
              have k1 := cX_ok (ds := ds) hR hT h1
              have k2 := cX_ok (ds := ds) hR hT h2
              rw [e1] at k1; rw [e2] at k2
              obtain ⟨zv, n2, hzr, hzv, hzo, hn2, hzl⟩ := run_zero (P := P) (w := w) (ρ := ρ) hz
              rw [hn] at hn2; cases hn2
              obtain ⟨ti, hti, hby⟩ := run_bytes hm
              have hzl2 : zv.cells.toList.length = n := by rw [← VRL_len hzv]; exact hzl
              have hzs : zv.cells.size = n := by simpa using hzl2
              obtain ⟨q1, q2, q3, q4⟩ := hh
              have ex : IntKind.i64.wrap x = x := by unfold IntKind.wrap; simp [IntKind.bits, IntKind.signed]; omega
              have ey : IntKind.i64.wrap y = y := by unfold IntKind.wrap; simp [IntKind.bits, IntKind.signed]; omega
              have hrow : VRL ρ (repl y.toNat z) ((Array.range (y.toNat * n)).map (fun i => (if y.toNat * n = 0 then #[] else zv.cells)[i % (if y.toNat * n = 0 then #[] else zv.cells).size]!)).toList := by
                have := VRL_repl y.toNat hzv
                rw [hzl2] at this
                by_cases h0 : y.toNat * n = 0
                · rw [h0] at this ⊢; simpa using this
                · simp only [if_neg h0]
                  simpa [hzs] using this
              refine fin (Instr.makeSlice t _ _) _ _ e (.slice (some ⟨w.heap.size, 0, none⟩) x.toNat y.toNat) _ hrow (repl_one hzo _) ?_ fun ρ' nm e => slc ρ' _ _ _ nm (by omega) e
              have hb : (m : Int) * y ≤ 1073741824 := by rw [Int.mul_comm]; exact q3
              have c1 : (IntKind.i64.wrap y < 0 || ((m : Int) * (IntKind.i64.wrap y) > 2 ^ 48 : Bool)) = false := by
                rw [ey]; simp; exact ⟨by omega, by omega⟩
              simp only [Instr.makeSlice, Sem.run_bind, run_underlying hs, Result.andThen_ok, VR_i k1, VR_i k2, asInt, run_asIntOf, Sem.run_pure, run_typeInfo hti, hby, ex, ey]
              rw [if_neg (by simp; omega)]
              simp only [Sem.run_bind, run_askRoom, run_sizeOf hn, Result.andThen_ok]
              by_cases h0 : y.toNat * n = 0
              · simp only [h0, if_true, Sem.run_bind, Sem.run_pure, Result.andThen_ok, run_newRow]
              · simp only [if_neg h0, Sem.run_bind, hzr, Sem.run_pure, Result.andThen_ok, run_newRow]
            · cases h
          · cases h
        · cases hc
      · cases hc
    · cases hc
  | convert s d x =>
    simp only [cOp, cConv] at hc
    split at hc
    · simp only [Option.some.injEq] at hc; subst hc; simp [XOp.make] at h
    · simp only [Option.some.injEq] at hc; subst hc; simp [XOp.make] at h
    · split at hc
      · simp only [Option.some.injEq] at hc; subst hc; simp [XOp.make] at h
      · cases hc
    · cases hc
  | binOp bop xt x y yt => simp only [cOp] at hc; obtain ⟨h1, h2⟩ := cBin_not hc; cases q <;> simp [XOp.eff] at h1 <;> simp [XOp.mk] at h2 <;> simp [XOp.make] at h
  | call c =>
    simp only [cOp] at hc
    split at hc
    · split at hc
      · simp only [Option.some.injEq] at hc; subst hc; simp [XOp.make] at h
      · cases hc
    · rw [cBuiltin_not hc] at h; cases h
    · cases hc
  | _ =>
    exfalso
    simp only [cOp] at hc
    (repeat' split at hc) <;> first | (cases hc; done) | (simp only [Option.some.injEq] at hc; subst hc; simp [XOp.make] at h; done) | (simp only [Option.map_eq_some_iff] at hc; obtain ⟨_, _, rfl⟩ := hc; simp [XOp.make] at h; done) |
      (simp only [Option.bind_eq_some_iff, Option.map_eq_some_iff] at hc; obtain ⟨_, _, _, _, rfl⟩ := hc; simp [XOp.make] at h; done) |
      (simp only [Option.bind_eq_some_iff] at hc; obtain ⟨_, _, hc⟩ := hc; split at hc <;> first | (cases hc; done) | (simp only [Option.some.injEq] at hc; subst hc; simp [XOp.make] at h; done))

theorem make_ok (hR : Rel P B w0 ρ H w) (hT : TR ρ N T tmps) {o : Oper} {q : XOp} (hc : cOp P o.op = some q) {f : Nat → AV × Blk} (h : q.make T = some f) :
    ∃ c w' ρ', (execOp (Act.eval ⟨tmps, ds⟩) o).run P w = .ok (.value c) w' ∧ VR ρ' (f H.next).1 c ∧ Rel P B w0 ρ' (H.alloc (f H.next).2) w' ∧ St ρ H w ρ' (H.alloc (f H.next).2) w' := by
  obtain ⟨c, ob, d, z, hr, hb⟩ := make_raw (ds := ds) hR hT hc h
  obtain ⟨h1, h2⟩ := hR.more ob d z fun ρ' he hn => (hb H.next ρ' he hn).2
  exact ⟨c, _, _, hr, (hb _ _ h2.ext Rho.upd_same).1, h1, h2⟩
end
end Go.Proofs.Ytjheedfobmlalaa.E
