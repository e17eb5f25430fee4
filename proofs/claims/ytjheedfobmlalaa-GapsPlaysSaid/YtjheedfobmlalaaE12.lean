/- What turns the heap, but for calls: in the evaluator and on the machine: the whole. It bears no condition. -/
import Derived.Test.YtjheedfobmlalaaE11
namespace Go.Proofs.Ytjheedfobmlalaa.E
open Go.RowKit (Below)
set_option linter.unusedVariables false
set_option linter.unusedSimpArgs false

section
variable {P : Program} {B : Nat} {w0 w : World} {ρ : Rho} {H : AH} {N : Nat} {T : Tm} {tmps : Array Value} {ds : List Deferred}

theorem tk_copy (hR : Rel P B w0 ρ H w) {ats : Array TypeId} {t e : TypeId} (ht : ats[0]? = some t) (hs : P.underlying t = some (.slice e)) {size : Nat} (hsz : tsize P e = some size) (h1 : 0 < size)
    {d x : AV} {dv xv : Value} (hdv : VR ρ d dv) (hxv : VR ρ x xv) {v : AV} {H' : AH} (h : (XOp.copy size (.c d) (.c x)).turn T H = some (v, H')) (ty : TypeId) :
    Tk P B w0 ρ H w (Builtin.copy_ ats ty #[dv, xv]) v H' := by
  simp only [XOp.turn, XO.ev] at h
  cases d with
  | sl a len cap g =>
    simp only at h
    cases hl : lenOfA x with
    | none => simp [hl] at h
    | some n =>
      simp only [hl] at h
      cases hsrc : XOp.src H size (Nat.min n len) x with
      | none => simp [hsrc] at h
      | some new =>
        simp only [hsrc] at h
        obtain ⟨us, hus, huo, hur, hul⟩ := src_ok hR hxv hl (Nat.min_le_left _ _) hsrc
        have hlenx := run_lenOf (P := P) (w := w) hxv hl
        cases a with
        | none =>
          simp only [VR] at hdv
          obtain ⟨rfl, rfl, rfl⟩ := hdv
          simp only at h
          split at h
          · rename_i h0
            simp only [Option.some.injEq, Prod.mk.injEq] at h
            obtain ⟨rfl, rfl⟩ := h
            refine ⟨.int .i64 (Nat.min n 0 : Nat), w, ρ, ?_, by simp only [VR], hR, St.refl ρ H w⟩
            simp only [Builtin.copy_, ht, List.getElem?_toArray, List.getElem?_cons_zero, List.getElem?_cons_succ, Sem.run_bind, run_underlying hs, Result.andThen_ok, hlenx, run_sizeOf hsz, hur, Sem.run_pure, goInt]
          · cases h
        | some ab =>
          simp only [Option.map_eq_some_iff] at h
          obtain ⟨H2, hw, h⟩ := h
          simp only [Prod.mk.injEq] at h
          obtain ⟨rfl, rfl⟩ := h
          simp only [VR] at hdv
          obtain ⟨y, c, rfl, hlc, hx⟩ := hdv
          have hbegin : ∀ w', (storeCells y us).run P w = .ok () w' → (Builtin.copy_ ats ty #[.slice (some y) len c, xv]).run P w = .ok (.int .i64 (Nat.min n len : Nat)) w' := fun w' hst => by
            simp only [Builtin.copy_, ht, List.getElem?_toArray, List.getElem?_cons_zero, List.getElem?_cons_succ, Sem.run_bind, run_underlying hs, Result.andThen_ok, hlenx, run_sizeOf hsz, hur, hst, Sem.run_pure, goInt]
          rcases hx with ⟨k, o, s, hk, rfl, e1, e2⟩ | ⟨rfl, rfl, rfl⟩
          · obtain ⟨w', hr, hR', hSt⟩ := write_ok hR hw hus huo hk
            exact ⟨_, w', ρ, hbegin w' hr, by simp only [VR], hR', hSt⟩
          · have hul : us.length = 0 := by rw [hul]; simp
            have hu0 : us = [] := List.length_eq_zero_iff.1 (by omega)
            subst hu0
            rw [VRL_len_nil hus] at hw
            simp only [AH.write, if_true, Option.some.injEq] at hw
            subst hw
            exact ⟨_, w, ρ, hbegin w rfl, by simp only [VR], hR, St.refl ρ H w⟩
  | _ => simp at h

theorem tk_store (hR : Rel P B w0 ρ H w) {t : TypeId} {n : Nat} (hn : tsize P t = some n) {a x : AV} {av xv : Value} (hav : VR ρ a av) (hxv : VR ρ x xv) {v : AV} {H' : AH} (h : (XOp.store n (.c a) (.c x)).turn T H = some (v, H')) :
    ∃ w' ρ', (Instr.storeAt t av xv).run P w = .ok () w' ∧ v = und ∧ Rel P B w0 ρ' H' w' ∧ St ρ H w ρ' H' w' := by
  simp only [XOp.turn, XO.ev] at h
  split at h
  · rename_i b o
    split at h
    · rename_i vs hvs
      split at h
      · rename_i hl
        simp only [Option.map_eq_some_iff] at h
        obtain ⟨H2, hw, h⟩ := h
        simp only [Prod.mk.injEq] at h
        obtain ⟨rfl, rfl⟩ := h
        obtain ⟨hv, ho⟩ := cellsOf_ok hxv hvs
        obtain ⟨k, o', s, hk, rfl⟩ := VR_p hav
        obtain ⟨w', hr, hR', hSt⟩ := write_ok hR hw hv ho hk
        refine ⟨w', ρ, ?_, rfl, hR', hSt⟩
        have hsz : xv.cells.size = n := by have := VRL_len hv; simpa [hl] using this.symm
        simp only [Instr.storeAt, Instr.sureAddr, Sem.run_bind, Sem.run_pure, Result.andThen_ok, storeVar, run_sizeOf hn]
        rw [if_neg (by simp [hsz])]
        exact hr
      · cases h
    · cases h
  · cases h

theorem tk_clrs (hR : Rel P B w0 ρ H w) {ats : Array TypeId} {t e : TypeId} (ht : ats[0]? = some t) (hs : P.underlying t = some (.slice e)) {z : List AV} (hz : tzero P e = some z)
    {x : AV} {xv : Value} (hxv : VR ρ x xv) {v : AV} {H' : AH} (h : (XOp.clrs z (.c x)).turn T H = some (v, H')) (ty : TypeId) :
    Tk P B w0 ρ H w (Builtin.clear_ ats ty #[xv]) v H' := by
  obtain ⟨zv, n2, hzr, hzv, hzo, hn2, hzl⟩ := run_zero (P := P) (ρ := ρ) (w := w) hz
  have hund : VR ρ und (.tuple #[]) := VR_und
  simp only [XOp.turn, XO.ev] at h
  split at h
  · simp only [VR] at hxv
    obtain ⟨rfl, rfl, rfl⟩ := hxv
    simp only [Option.some.injEq, Prod.mk.injEq] at h
    obtain ⟨rfl, rfl⟩ := h
    refine ⟨.tuple #[], w, ρ, ?_, hund, hR, St.refl ρ H w⟩
    simp only [Builtin.clear_, ht, List.getElem?_toArray, List.getElem?_cons_zero, Sem.run_bind, run_underlying hs, Result.andThen_ok, Sem.run_pure]
  · rename_i b o len cap g
    simp only [VR] at hxv
    obtain ⟨y, c, rfl, hlc, hx⟩ := hxv
    split at h
    · rename_i h0; subst h0
      simp only [Option.some.injEq, Prod.mk.injEq] at h
      obtain ⟨rfl, rfl⟩ := h
      refine ⟨.tuple #[], w, ρ, ?_, hund, hR, St.refl ρ H w⟩
      simp only [Builtin.clear_, ht, List.getElem?_toArray, List.getElem?_cons_zero, Sem.run_bind, run_underlying hs, Result.andThen_ok, Sem.run_pure]
    · rename_i h0
      simp only [Option.map_eq_some_iff] at h
      obtain ⟨H2, hw, h⟩ := h
      simp only [Prod.mk.injEq] at h
      obtain ⟨rfl, rfl⟩ := h
      rcases hx with ⟨k, oo, s, hk, rfl, e1, e2⟩ | ⟨rfl, rfl, rfl⟩
      · have hrow : VRL ρ (repl len z) (Builtin.zeroCells zv.cells len).toList := by
          have := VRL_repl len hzv
          simpa [Builtin.zeroCells] using this
        obtain ⟨w', hr, hR', hSt⟩ := write_ok hR hw hrow (repl_one hzo len) hk
        refine ⟨.tuple #[], w', ρ, ?_, hund, hR', hSt⟩
        obtain ⟨m, rfl⟩ : ∃ m, len = m + 1 := ⟨len - 1, by omega⟩
        simp only [Builtin.clear_, ht, List.getElem?_toArray, List.getElem?_cons_zero, Sem.run_bind, run_underlying hs, Result.andThen_ok, hzr, hr, Sem.run_pure]
      · omega
  · cases h

theorem run_getObj_map {k : Nat} {es : Array MapEntry} {cl : Nat} (h : w.heap[k]? = some (.map es cl)) : (getObj k).run P w = .ok (.map es cl) w := by simp [getObj, Sem.run, h]
theorem run_setObj_map {k : Nat} {es : Array MapEntry} {cl : Nat} (h : w.heap[k]? = some (.map es cl)) (o : Obj) : (setObj k o).run P w = .ok () (World.put w k o) := by simp [setObj, Sem.run, h, World.put]

theorem tk_clrm (hR : Rel P B w0 ρ H w) {ats : Array TypeId} {t e kt : TypeId} (ht : ats[0]? = some t) (hs : P.underlying t = some (.map kt e))
    {x : AV} {xv : Value} (hxv : VR ρ x xv) {v : AV} {H' : AH} (h : (XOp.clrm (.c x)).turn T H = some (v, H')) (ty : TypeId) :
    Tk P B w0 ρ H w (Builtin.clear_ ats ty #[xv]) v H' := by
  have hund : VR ρ und (.tuple #[]) := VR_und
  simp only [XOp.turn, XO.ev] at h
  split at h
  · simp only [VR] at hxv; subst hxv
    simp only [Option.some.injEq, Prod.mk.injEq] at h
    obtain ⟨rfl, rfl⟩ := h
    refine ⟨.tuple #[], w, ρ, ?_, hund, hR, St.refl ρ H w⟩
    simp only [Builtin.clear_, ht, List.getElem?_toArray, List.getElem?_cons_zero, Sem.run_bind, run_underlying hs, Result.andThen_ok, Sem.run_pure]
  · rename_i r
    simp only [VR] at hxv
    obtain ⟨k, o, s, hk, rfl⟩ := hxv
    split at h
    · rename_i es cl hb
      simp only [Option.some.injEq, Prod.mk.injEq] at h
      obtain ⟨rfl, rfl⟩ := h
      obtain ⟨k2, o2, s2, es', hk2, hw, hB, hent⟩ := hR.blk _ _ hb
      rw [hk] at hk2; cases hk2
      obtain ⟨h1, h2⟩ := hR.put (b' := .map [] cl) (x := .map #[] cl) hb rfl hk ⟨k, o, s, #[], hk, put_same hw, hB, by simp [entR]⟩
      refine ⟨.tuple #[], _, ρ, ?_, hund, h1, h2⟩
      simp only [Builtin.clear_, ht, List.getElem?_toArray, List.getElem?_cons_zero, Sem.run_bind, run_underlying hs, Result.andThen_ok, run_getObj_map hw, run_setObj_map hw, Sem.run_pure]
    · cases h
  · cases h

theorem entR_erase : ∀ {es : List (AV × AV × Nat)} {l : List MapEntry} (i : Nat), entR ρ es l → entR ρ (es.eraseIdx i) (l.eraseIdx i)
  | [], l, i, h => by simp only [entR] at h; subst h; simp [entR]
  | x :: es, l, 0, h => by simp only [entR] at h; obtain ⟨y, ys, rfl, _, _, _, h⟩ := h; simpa using h
  | x :: es, l, i + 1, h => by
    simp only [entR] at h
    obtain ⟨y, ys, rfl, h1, h2, h3, h⟩ := h
    simp only [List.eraseIdx_cons_succ, entR]
    exact ⟨y, _, rfl, h1, h2, h3, entR_erase i h⟩
theorem entR_push : ∀ {es : List (AV × AV × Nat)} {l : List MapEntry} {k v : AV} {q : Nat} {e : MapEntry}, entR ρ es l → VR ρ k e.key → VR ρ v e.val → q = e.born → entR ρ (es ++ [(k, v, q)]) (l ++ [e])
  | [], l, k, v, q, e, h, h1, h2, h3 => by simp only [entR] at h; subst h; simp only [List.nil_append, entR]; exact ⟨e, [], rfl, h1, h2, h3, rfl⟩
  | x :: es, l, k, v, q, e, h, h1, h2, h3 => by
    simp only [entR] at h
    obtain ⟨y, ys, rfl, g1, g2, g3, h⟩ := h
    simp only [List.cons_append, entR]
    exact ⟨y, _, rfl, g1, g2, g3, entR_push h h1 h2 h3⟩
theorem entR_modify : ∀ {es : List (AV × AV × Nat)} {l : List MapEntry} (i : Nat) {k v : AV} {kc vc : Value}, entR ρ es l → VR ρ k kc → VR ρ v vc → entR ρ (es.modify i fun e => (k, v, e.2.2)) (l.modify i fun e => { e with key := kc, val := vc })
  | [], l, i, k, v, kc, vc, h, h1, h2 => by simp only [entR] at h; subst h; cases i <;> simp [entR]
  | x :: es, l, 0, k, v, kc, vc, h, h1, h2 => by
    simp only [entR] at h
    obtain ⟨y, ys, rfl, g1, g2, g3, h⟩ := h
    simp only [List.modify_zero_cons, entR]
    exact ⟨_, _, rfl, h1, h2, g3, h⟩
  | x :: es, l, i + 1, k, v, kc, vc, h, h1, h2 => by
    simp only [entR] at h
    obtain ⟨y, ys, rfl, g1, g2, g3, h⟩ := h
    simp only [List.modify_succ_cons, entR]
    exact ⟨y, _, rfl, g1, g2, g3, entR_modify i h h1 h2⟩

theorem tk_del (hR : Rel P B w0 ρ H w) {ats : Array TypeId} {t e kt : TypeId} (ht : ats[0]? = some t) (hs : P.underlying t = some (.map kt e)) {kd : Nat} (hkd : kindM P kt = some kd)
    {x k : AV} {xv kv : Value} (hxv : VR ρ x xv) (hkv : VR ρ k kv) {v : AV} {H' : AH} (h : (XOp.del kd (.c x) (.c k)).turn T H = some (v, H')) (ty : TypeId) :
    Tk P B w0 ρ H w (Builtin.delete_ ats ty #[xv, kv]) v H' := by
  have hund : VR ρ und (.tuple #[]) := VR_und
  simp only [XOp.turn] at h
  split at h
  · cases h
  simp only [XO.ev] at h
  split at h
  · simp only [VR] at hxv; subst hxv
    simp only [Option.some.injEq, Prod.mk.injEq] at h
    obtain ⟨rfl, rfl⟩ := h
    refine ⟨.tuple #[], w, ρ, ?_, hund, hR, St.refl ρ H w⟩
    simp only [Builtin.delete_, ht, List.getElem?_toArray, List.getElem?_cons_zero, List.getElem?_cons_succ, Sem.run_bind, run_underlying hs, Result.andThen_ok, run_checkKey hkd, Sem.run_pure]
  · rename_i r
    simp only [VR] at hxv
    obtain ⟨q, o, s, hq, rfl⟩ := hxv
    split at h
    · rename_i es cl hb
      obtain ⟨k2, o2, s2, es', hk2, hw, hB, hent⟩ := hR.blk _ _ hb
      rw [hq] at hk2; cases hk2
      cases hf : mfind H kd k es 0 with
      | none => simp [hf] at h
      | some res =>
        simp only [hf] at h
        obtain ⟨r', hr', hm⟩ := run_findKey (P := P) (w := w) hR hkd hkv hent hf
        cases res with
        | none =>
          simp only [Option.some.injEq, Prod.mk.injEq] at h
          obtain ⟨rfl, rfl⟩ := h
          simp only at hm; subst hm
          have hid : World.put w q (.map es' cl) = w := by
            obtain ⟨hk, e⟩ := Array.getElem?_eq_some_iff.1 hw
            have : w.heap.setIfInBounds q (.map es' cl) = w.heap := by
              apply Array.ext
              · simp
              · intro i h1 h2
                by_cases e2 : q = i
                · subst e2; simp [e]
                · rw [Array.getElem_setIfInBounds_ne _ e2]
            simp [World.put, this]
          refine ⟨.tuple #[], w, ρ, ?_, hund, hR, St.refl ρ H w⟩
          simp only [Builtin.delete_, ht, List.getElem?_toArray, List.getElem?_cons_zero, List.getElem?_cons_succ, Sem.run_bind, run_underlying hs, Result.andThen_ok, run_getObj_map hw, run_checkKey hkd, hr', run_setObj_map hw, hid, Sem.run_pure]
        | some p =>
          obtain ⟨j, u⟩ := p
          simp only [Option.some.injEq, Prod.mk.injEq] at h
          obtain ⟨rfl, rfl⟩ := h
          obtain ⟨c, rfl, hc, hj, _⟩ := hm
          obtain ⟨h1, h2⟩ := hR.put (b' := .map (es.eraseIdx j) cl) (x := .map (es'.eraseIdxIfInBounds j) cl) hb rfl hq ⟨q, o, s, _, hq, put_same hw, hB, by
            have := entR_erase j hent
            rw [Array.toList_eraseIdxIfInBounds]; exact this⟩
          refine ⟨.tuple #[], _, ρ, ?_, hund, h1, h2⟩
          simp only [Builtin.delete_, ht, List.getElem?_toArray, List.getElem?_cons_zero, List.getElem?_cons_succ, Sem.run_bind, run_underlying hs, Result.andThen_ok, run_getObj_map hw, run_checkKey hkd, hr', run_setObj_map hw, Sem.run_pure]
    · cases h
  · cases h

theorem bytes_eq {x y : ByteArray} (h : (x == y) = true) : x = y := by
  have h2 : (x.data == y.data) = true := h
  have := eq_of_beq h2
  cases x; cases y; simp at this; rw [this]
theorem bytes_refl (x : ByteArray) : (x == x) = true := by
  have h2 : (x.data == x.data) = true := by simp
  exact h2

theorem keyEq_true {kd : Nat} {a b : AV} (h : keyEq kd a b = some true) : a = b := by
  unfold keyEq at h
  split at h
  · split at h
    · rename_i e; subst e; simp at h; rw [h]
    · cases h
  · simp only [Option.some.injEq] at h; rw [bytes_eq h]
  · simp at h; rw [h]
  · cases h
theorem keyEqH_true {kd : Nat} {a b : AV} (h : keyEqH H kd a b = some true) : a = b ∧ ((∃ p, a = .p (some p)) ∨ keyEq kd a b = some true) := by
  unfold keyEqH at h
  split at h
  · rename_i m n _
    split at h
    · rename_i hmn
      simp only [Option.some.injEq, decide_eq_true_eq] at h
      exact ⟨by rw [Prod.ext hmn h], .inl ⟨_, rfl⟩⟩
    · split at h
      · simp at h
      · cases h
  · exact ⟨keyEq_true h, .inr h⟩


theorem tk_mput (hR : Rel P B w0 ρ H w) {t e kt : TypeId} (hs : P.underlying t = some (.map kt e)) {kd : Nat} (hkd : kindM P kt = some kd)
    {x k u : AV} {xv kv uv : Value} (hxv : VR ρ x xv) (hkv : VR ρ k kv) (huv : VR ρ u uv) {v : AV} {H' : AH} (h : (XOp.mput kd (.c x) (.c k) (.c u)).turn T H = some (v, H')) :
    ∃ w' ρ', (Instr.mapUpdate t xv kv uv).run P w = .ok () w' ∧ v = und ∧ Rel P B w0 ρ' H' w' ∧ St ρ H w ρ' H' w' := by
  simp only [XOp.turn] at h
  split at h
  · cases h
  simp only [XO.ev] at h
  split at h
  · rename_i r
    simp only [VR] at hxv
    obtain ⟨q, o, s, hq, rfl⟩ := hxv
    split at h
    · rename_i es cl hb
      obtain ⟨k2, o2, s2, es', hk2, hw, hB, hent⟩ := hR.blk _ _ hb
      rw [hq] at hk2; cases hk2
      cases hf : mfind H kd k es 0 with
      | none => simp [hf] at h
      | some res =>
        simp only [hf] at h
        obtain ⟨r', hr', hm⟩ := run_findKey (P := P) (w := w) hR hkd hkv hent hf
        cases res with
        | none =>
          simp only [Option.some.injEq, Prod.mk.injEq] at h
          obtain ⟨rfl, rfl⟩ := h
          simp only at hm; subst hm
          obtain ⟨h1, h2⟩ := hR.put (b' := .map (es ++ [(k, u, cl)]) (cl + 1)) (x := .map (es'.push { key := kv, val := uv, born := cl }) (cl + 1)) hb rfl hq ⟨q, o, s, _, hq, put_same hw, hB, by
            rw [Array.toList_push]; exact entR_push hent hkv huv rfl⟩
          refine ⟨_, ρ, ?_, rfl, h1, h2⟩
          simp only [Instr.mapUpdate, Sem.run_bind, run_underlying hs, Result.andThen_ok, run_getObj_map hw, run_checkKey hkd, hr', run_setObj_map hw]
        | some p =>
          obtain ⟨j, y⟩ := p
          simp only [Option.some.injEq, Prod.mk.injEq] at h
          obtain ⟨rfl, rfl⟩ := h
          obtain ⟨c, rfl, hc, hj, e1, f1, g1, g2, g3⟩ := hm
          obtain ⟨h1, h2⟩ := hR.put (b' := .map (es.modify j fun e => (k, u, e.2.2)) cl) (x := .map (es'.modify j fun e => { e with key := kv, val := uv }) cl) hb rfl hq ⟨q, o, s, _, hq, put_same hw, hB, by
            rw [Array.toList_modify]; exact entR_modify j hent hkv huv⟩
          refine ⟨_, ρ, ?_, rfl, h1, h2⟩
          have hst : (Instr.keyThatStays (((es'[j]?).map (·.key)).getD kv) kv).run P w = .ok kv w := by
            have e2 : es'[j]? = some f1 := by rw [← Array.getElem?_toList]; exact g2
            rw [e2]
            simp only [Option.map_some, Option.getD_some]
            obtain ⟨hke, g3⟩ := keyEqH_true g3
            have hfk : VR ρ e1.1 f1.key := by
              have : ∀ {es : List (AV × AV × Nat)} {l : List MapEntry} (i : Nat) {a : AV × AV × Nat} {b : MapEntry}, entR ρ es l → es[i]? = some a → l[i]? = some b → VR ρ a.1 b.key := by
                intro es; induction es with
                | nil => intro l i a b _ h; simp at h
                | cons z es ih =>
                  intro l i a b h h1 h2
                  simp only [entR] at h
                  obtain ⟨y, ys, rfl, p1, p2, p3, h⟩ := h
                  cases i with
                  | zero => simp at h1 h2; subst h1; subst h2; exact p1
                  | succ i => exact ih i h (by simpa using h1) (by simpa using h2)
              exact this j hent g1 g2
            rw [← hke] at hfk
            have hsame : Instr.sameBits 10000 f1.key kv = true := by
              rcases g3 with ⟨p, hp⟩ | g3
              · rw [hp] at hkv hfk
                obtain ⟨k1, o1, s1, q1, rfl⟩ := VR_p hkv
                obtain ⟨k2, o2, s2, q2, hk2⟩ := VR_p hfk
                rw [q1] at q2; cases q2
                rw [hk2]; simp [Instr.sameBits]
              unfold keyEq at g3
              split at g3
              · rw [VR_i hkv, VR_i hfk]; simp [Instr.sameBits]
              · rw [VR_s hkv, VR_s hfk]; simp only [Instr.sameBits]; exact bytes_refl _
              · rw [VR_b hkv, VR_b hfk]; simp [Instr.sameBits]
              · cases g3
            simp only [Instr.keyThatStays, hsame, if_true, Sem.run_pure]
          simp only [Instr.mapUpdate, Sem.run_bind, run_underlying hs, Result.andThen_ok, run_getObj_map hw, run_checkKey hkd, hr', hst, run_setObj_map hw]
    · cases h
  · cases h
end
end Go.Proofs.Ytjheedfobmlalaa.E
