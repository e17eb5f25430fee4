/- One operation, calls too: in the evaluator and on the machine. It bears no condition. -/
import Derived.Test.YtjheedfobmlalaaE12
namespace Go.Proofs.Ytjheedfobmlalaa.E
open Go.RowKit (Below)
set_option linter.unusedVariables false
set_option linter.unusedSimpArgs false

section
variable {P : Program} {B : Nat} {w0 w : World} {ρ : Rho} {H : AH} {N : Nat} {T : Tm} {tmps : Array Value} {ds : List Deferred}

/-- What a machine's answer to an operation stands for. -/
def NR (ρ : Rho) (v : AV) (r : Next) : Prop := (∃ c, r = .value c ∧ VR ρ v c) ∨ (r = .skip ∧ v = und)

abbrev To (P : Program) (B : Nat) (w0 : World) (ρ : Rho) (H : AH) (w : World) (s : Sem Next) (v : AV) (H' : AH) : Prop := ∃ r w' ρ', s.run P w = .ok r w' ∧ NR ρ' v r ∧ Rel P B w0 ρ' H' w' ∧ St ρ H w ρ' H' w'
theorem Tk.up {s : Sem Value} {v : AV} {H' : AH} (h : Tk P B w0 ρ H w s v H') : To P B w0 ρ H w (do pure (.value (← s))) v H' := by
  obtain ⟨c, w', ρ', hr, hv, h1, h2⟩ := h
  exact ⟨.value c, w', ρ', by simp [hr], .inl ⟨c, rfl, hv⟩, h1, h2⟩

theorem turn_ok (hR : Rel P B w0 ρ H w) (hT : TR ρ N T tmps) {o : Oper} {q : XOp} (hc : cOp P o.op = some q) {v : AV} {H' : AH} (h : q.turn T H = some (v, H')) :
    To P B w0 ρ H w (execOp (Act.eval ⟨tmps, ds⟩) o) v H' := by
  obtain ⟨dst, op, ty, pos, af, gd⟩ := o
  simp only at hc
  cases op with
  | store t a x =>
    simp only [cOp] at hc
    split at hc
    · rename_i a' x' n h1 h2 h3
      simp only [Option.some.injEq] at hc; subst hc
      obtain ⟨w', ρ', hr, rfl, k1, k2⟩ := tk_store (T := T) hR h3 (cX_ok (ds := ds) hR hT h1) (cX_ok (ds := ds) hR hT h2) h
      exact ⟨.skip, w', ρ', by simp [execOp, hr], .inr ⟨rfl, rfl⟩, k1, k2⟩
    · cases hc
  | mapUpdate t m k x =>
    simp only [cOp] at hc
    split at hc
    · rename_i kt e m' k' x' hs h1 h2 h3
      simp only [Option.map_eq_some_iff] at hc
      obtain ⟨kd, hkd, rfl⟩ := hc
      obtain ⟨w', ρ', hr, rfl, k1, k2⟩ := tk_mput (T := T) hR hs hkd (cX_ok (ds := ds) hR hT h1) (cX_ok (ds := ds) hR hT h2) (cX_ok (ds := ds) hR hT h3) h
      exact ⟨.skip, w', ρ', by simp [execOp, hr], .inr ⟨rfl, rfl⟩, k1, k2⟩
    · cases hc
  | call c =>
    simp only [cOp] at hc
    split at hc
    · split at hc
      · simp only [Option.some.injEq] at hc; subst hc; simp [XOp.turn] at h
      · cases hc
    · rename_i b hb
      have key : ∀ s : Sem Value, Go.builtin b c.argTypes ty (c.args.map fun | .const _ => true | _ => false) (c.args.map (Act.eval ⟨tmps, ds⟩)) = (do pure (.value (← s))) → Tk P B w0 ρ H w s v H' →
          To P B w0 ρ H w (execOp (Act.eval ⟨tmps, ds⟩) ⟨dst, .call c, ty, pos, af, gd⟩) v H' := fun s hs hk => by
        have := hk.up
        obtain ⟨r, w', ρ', hr, h1, h2, h3⟩ := this
        refine ⟨r, w', ρ', ?_, h1, h2, h3⟩
        simp only [execOp, resolve, hb, Sem.run_bind, Sem.run_pure, Result.andThen_ok, invoke]
        exact (congrArg (fun s => Sem.run P s w) hs).trans hr
      unfold cBuiltin at hc
      split at hc
      · rename_i t x ht hargs
        split at hc
        · simp only [Option.some.injEq] at hc; subst hc; simp [XOp.turn] at h
        · simp only [Option.some.injEq] at hc; subst hc; simp [XOp.turn] at h
        · simp only [Option.some.injEq] at hc; subst hc; simp [XOp.turn] at h
        · split at hc
          · simp only [Option.some.injEq] at hc; subst hc; simp [XOp.turn] at h
          · cases hc
        · simp only [Option.some.injEq] at hc; subst hc; simp [XOp.turn] at h
        · cases hc
      · split at hc
        · simp only [Option.some.injEq] at hc; subst hc; simp [XOp.turn] at h
        · cases hc
      · rename_i t s x ht hargs
        split at hc
        · rename_i a b e q hs1 hx1 hs hu
          split at hc
          · rename_i n m z hn hm hz
            split at hc
            · rename_i h0
              simp only [Option.some.injEq] at hc; subst hc
              cases hu1 : c.argTypes[1]? with
              | none => rw [hu1] at hu; simp at hu
              | some u =>
                rw [hu1] at hu
                refine key _ (by rw [map_list hargs]; rfl) ?_
                exact tk_append (T := T) hR ht hs hu1 (.inl ⟨q, hu⟩) hn hm hz h0.1 h0.2 (cX_ok (ds := ds) hR hT hs1) (cX_ok (ds := ds) hR hT hx1) h ty
            · cases hc
          · cases hc
        · rename_i a b e hs1 hx1 hs hu
          split at hc
          · rename_i n m z hn hm hz
            split at hc
            · rename_i h0
              simp only [Option.some.injEq] at hc; subst hc
              cases hu1 : c.argTypes[1]? with
              | none => rw [hu1] at hu; simp at hu
              | some u =>
                rw [hu1] at hu
                refine key _ (by rw [map_list hargs]; rfl) ?_
                exact tk_append (T := T) hR ht hs hu1 (.inr hu) hn hm hz h0.1 h0.2 (cX_ok (ds := ds) hR hT hs1) (cX_ok (ds := ds) hR hT hx1) h ty
            · cases hc
          · cases hc
        · cases hc
      · rename_i t d x ht hargs
        split at hc
        · rename_i a b e hd1 hx1 hs
          simp only [Option.bind_eq_some_iff] at hc
          obtain ⟨n, hn, hc⟩ := hc
          split at hc
          · rename_i h0
            simp only [Option.some.injEq] at hc; subst hc
            refine key _ (by rw [map_list hargs]; rfl) ?_
            exact tk_copy (T := T) hR ht hs hn h0 (cX_ok (ds := ds) hR hT hd1) (cX_ok (ds := ds) hR hT hx1) h ty
          · cases hc
        · cases hc
      · rename_i t x ht hargs
        split at hc
        · rename_i a e hx1 hs
          simp only [Option.map_eq_some_iff] at hc
          obtain ⟨z, hz, rfl⟩ := hc
          refine key _ (by rw [map_list hargs]; rfl) ?_
          exact tk_clrs (T := T) hR ht hs hz (cX_ok (ds := ds) hR hT hx1) h ty
        · rename_i a kt e hx1 hs
          simp only [Option.some.injEq] at hc; subst hc
          refine key _ (by rw [map_list hargs]; rfl) ?_
          exact tk_clrm (T := T) hR ht hs (cX_ok (ds := ds) hR hT hx1) h ty
        · cases hc
      · rename_i t m k ht hargs
        split at hc
        · rename_i a b kt e hm1 hk1 hs
          simp only [Option.map_eq_some_iff] at hc
          obtain ⟨kd, hkd, rfl⟩ := hc
          refine key _ (by rw [map_list hargs]; rfl) ?_
          exact tk_del (T := T) hR ht hs hkd (cX_ok (ds := ds) hR hT hm1) (cX_ok (ds := ds) hR hT hk1) h ty
        · cases hc
      · simp only [Option.map_eq_some_iff] at hc
        obtain ⟨xs, hxs, rfl⟩ := hc; simp [XOp.turn] at h
      · simp only [Option.map_eq_some_iff] at hc
        obtain ⟨xs, hxs, rfl⟩ := hc; simp [XOp.turn] at h
      · cases hc
    · cases hc
  | binOp bop xt x y yt => simp only [cOp] at hc; have := cBin_not hc; cases q <;> simp [XOp.eff] at this <;> simp [XOp.turn] at h
  | convert s d x =>
    simp only [cOp, cConv] at hc
    split at hc
    · simp only [Option.some.injEq] at hc; subst hc; simp [XOp.turn] at h
    · simp only [Option.some.injEq] at hc; subst hc; simp [XOp.turn] at h
    · split at hc
      · simp only [Option.some.injEq] at hc; subst hc; simp [XOp.turn] at h
      · cases hc
    · cases hc
  | _ =>
    exfalso
    simp only [cOp] at hc
    (repeat' split at hc) <;> first | (cases hc; done) | (simp only [Option.some.injEq] at hc; subst hc; simp [XOp.turn] at h; done) | (simp only [Option.map_eq_some_iff] at hc; obtain ⟨_, _, rfl⟩ := hc; simp [XOp.turn] at h; done) |
      (simp only [Option.bind_eq_some_iff, Option.map_eq_some_iff] at hc; obtain ⟨_, _, _, _, rfl⟩ := hc; simp [XOp.turn] at h; done) |
      (simp only [Option.map_eq_some_iff, Option.bind_eq_some_iff] at hc; obtain ⟨_, ⟨_, _, _⟩, rfl⟩ := hc; simp [XOp.turn] at h; done) |
      (simp only [Option.bind_eq_some_iff] at hc; obtain ⟨_, _, hc⟩ := hc; split at hc <;> first | (cases hc; done) | (simp only [Option.some.injEq] at hc; subst hc; simp [XOp.turn] at h; done))

/-- Each operation but calls. -/
theorem run_ok (hR : Rel P B w0 ρ H w) (hT : TR ρ N T tmps) {o : Oper} {q : XOp} (hc : cOp P o.op = some q) (hn : ∀ f l, q ≠ .call f l) {call : CallF} {v : AV} {H' : AH} (h : q.run call T H = some (v, H')) :
    To P B w0 ρ H w (execOp (Act.eval ⟨tmps, ds⟩) o) v H' := by
  have lk : q.look T H = some v → H' = H → To P B w0 ρ H w (execOp (Act.eval ⟨tmps, ds⟩) o) v H' := fun h1 h2 => by
    subst h2
    obtain ⟨c, hr, hv⟩ := look_ok (ds := ds) hR hT hc h1
    exact ⟨.value c, w, ρ, hr, .inl ⟨c, rfl, hv⟩, hR, St.refl ρ _ w⟩
  have mk : (match q.make T with | some f => some ((f H.next).1, H.alloc (f H.next).2) | none => none) = some (v, H') → To P B w0 ρ H w (execOp (Act.eval ⟨tmps, ds⟩) o) v H' := fun h1 => by
    split at h1
    · rename_i f hf
      simp only [Option.some.injEq, Prod.mk.injEq] at h1
      obtain ⟨rfl, rfl⟩ := h1
      obtain ⟨c, w', ρ', hr, hv, k1, k2⟩ := make_ok (ds := ds) hR hT hc hf
      exact ⟨.value c, w', ρ', hr, .inl ⟨c, rfl, hv⟩, k1, k2⟩
    · cases h1
  cases q <;> simp only [XOp.run] at h <;> first
    | exact turn_ok hR hT hc h
    | exact mk h
    | (simp only [Option.map_eq_some_iff, Prod.mk.injEq] at h; obtain ⟨_, h1, rfl, h2⟩ := h; exact lk h1 h2.symm)
    | exact absurd rfl (hn _ _)
end
end Go.Proofs.Ytjheedfobmlalaa.E
