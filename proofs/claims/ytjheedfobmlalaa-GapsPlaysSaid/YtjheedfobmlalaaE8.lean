/- What an operation that turns nothing gives in the evaluator, it gives on the machine: the whole. It bears no condition. -/
import Derived.Test.YtjheedfobmlalaaE7
namespace Go.Proofs.Ytjheedfobmlalaa.E
open Go.RowKit (Below)
set_option linter.unusedVariables false
set_option linter.unusedSimpArgs false

section
variable {P : Program} {B : Nat} {w0 w : World} {ρ : Rho} {H : AH} {N : Nat} {T : Tm} {tmps : Array Value} {ds : List Deferred}

abbrev Lo (P : Program) (w : World) (ρ : Rho) (s : Sem Next) (v : AV) : Prop := ∃ c, s.run P w = .ok (.value c) w ∧ VR ρ v c
theorem Lk.up {s : Sem Value} {v : AV} (h : Lk P w ρ s v) : Lo P w ρ (do pure (.value (← s))) v := by
  obtain ⟨c, hr, hv⟩ := h
  exact ⟨c, by simp [hr], hv⟩

theorem lk_conv (hR : Rel P B w0 ρ H w) (hT : TR ρ N T tmps) {src dst : TypeId} {x : Operand} {q : XOp} (hc : cConv P src dst x = some q) {v : AV} (h : q.look T H = some v) :
    Lk P w ρ (Go.convert src dst (Act.eval ⟨tmps, ds⟩ x)) v := by
  unfold cConv at hc
  split at hc
  · rename_i a k1 k hcx hs hd
    have hx := cX_ok (ds := ds) hR hT hcx
    simp only [Option.some.injEq] at hc; subst hc
    simp only [XOp.look] at h
    split at h
    · rename_i k2 n e
      rw [e] at hx; rw [VR_i hx]
      simp only [Option.some.injEq] at h; subst h
      exact ⟨.int k (k.wrap n), by simp [Go.convert, run_underlying hs, run_underlying hd, Conv.intToInt], by simp only [VR]⟩
    · cases h
  · rename_i a hcx hs hd
    have hx := cX_ok (ds := ds) hR hT hcx
    simp only [Option.some.injEq] at hc; subst hc
    simp only [XOp.look] at h
    split at h
    · rename_i s e
      rw [e] at hx; rw [VR_s hx]
      simp only [Option.some.injEq] at h; subst h
      exact ⟨.string s, by simp [Go.convert, run_underlying hs, run_underlying hd], by simp only [VR]⟩
    · cases h
  · rename_i a e hcx hs hd
    have hx := cX_ok (ds := ds) hR hT hcx
    split at hc
    · rename_i he
      simp only [Option.some.injEq] at hc; subst hc
      exact lk_cb2s hR hs hd he hx h
    · cases hc
  · cases hc

theorem no_look {q : XOp} {v : AV} (h : q.look T H = some v) (hq : (q.eff || q.mk) = true) : False := by
  cases q <;> first | (simp [XOp.eff, XOp.mk] at hq; done) | (simp [XOp.look] at h; done) | (unfold XOp.look at h; cases h; done)

theorem map_list {args : Array Operand} {l : List Operand} (h : args.toList = l) (ev : Operand → Value) : args.map ev = (l.map ev).toArray := by subst h; apply Array.ext'; simp

theorem lk_len (hR : Rel P B w0 ρ H w) (hT : TR ρ N T tmps) {ats : Array TypeId} {t : TypeId} (ht : ats[0]? = some t) {x : Operand} {q : XOp} (hc : (match cX P x, P.underlying t with
    | some a, some .string => some (.lens a)
    | some a, some (.slice _) => some (.lenx a)
    | some a, some (.array n _) => some (.lena n)
    | some a, some (.pointer r) => match P.underlying r with | some (.array n _) => some (.lena n) | _ => none
    | some a, some (.map _ _) => some (.lenm a)
    | _, _ => none) = some q) {v : AV} (h : q.look T H = some v) (ty : TypeId) : Lk P w ρ (Builtin.len_ ats ty #[Act.eval ⟨tmps, ds⟩ x]) v := by
  have hbegin : ∀ (u : Value) (d : TypeDesc), P.underlying t = some d → (Builtin.len_ ats ty #[u]).run P w = (match d, u with
    | .string, .string s => (pure (goInt s.size) : Sem Value)
    | .array n _, _ => pure (goInt n)
    | .pointer arr, _ => do
      let .array n _ ← underlying arr | stuck "len: pointer to array expected"
      pure (goInt n)
    | .slice _, .slice _ n _ => pure (goInt n)
    | .map _ _, .map none | .chan _ _, .chan none => pure (goInt 0)
    | .map _ _, .map (some r) => do
      let .map entries _ ← getObj r | stuck "len: map expected"
      pure (goInt entries.size)
    | .chan _ _, .chan (some r) => do
      let .chan _ buf _ _ _ timer ← getObj r | stuck "len: channel expected"
      pure (goInt (if timer then 0 else buf.size))
    | _, _ => stuck "len: string, array, pointer to array, slice, map or channel expected").run P w := fun u d hd => by
      simp only [Builtin.len_, ht, List.getElem?_toArray, List.getElem?_cons_zero, Sem.run_bind, run_underlying hd, Result.andThen_ok]
      rfl
  split at hc
  · rename_i a hcx hs
    have hx := cX_ok (ds := ds) hR hT hcx
    simp only [Option.some.injEq] at hc; subst hc
    simp only [XOp.look] at h
    rw [Lk, hbegin _ _ hs]
    split at h
    · rename_i s e
      rw [e] at hx; rw [VR_s hx]
      simp only [Option.some.injEq] at h; subst h
      exact ⟨_, rfl, by simp only [VR]; rfl⟩
    · cases h
  · rename_i a e0 hcx hs
    have hx := cX_ok (ds := ds) hR hT hcx
    simp only [Option.some.injEq] at hc; subst hc
    simp only [XOp.look] at h
    rw [Lk, hbegin _ _ hs]
    split at h
    · rename_i ad n m g e
      rw [e] at hx
      simp only [Option.some.injEq] at h; subst h
      cases ad with
      | none => simp only [VR] at hx; obtain ⟨rfl, rfl, hx⟩ := hx; rw [hx]; exact ⟨_, rfl, by simp only [VR]; rfl⟩
      | some ad => simp only [VR] at hx; obtain ⟨y, c, hx, _⟩ := hx; rw [hx]; exact ⟨_, rfl, by simp only [VR]; rfl⟩
    · cases h
  · rename_i a n e0 hcx hs
    simp only [Option.some.injEq] at hc; subst hc
    simp only [XOp.look, Option.some.injEq] at h; subst h
    rw [Lk, hbegin _ _ hs]
    exact ⟨_, rfl, by simp only [VR]; rfl⟩
  · rename_i a r hcx hs
    split at hc
    · rename_i n e0 hr
      simp only [Option.some.injEq] at hc; subst hc
      simp only [XOp.look, Option.some.injEq] at h; subst h
      rw [Lk, hbegin _ _ hs]
      exact ⟨goInt n, by simp [run_underlying hr], by simp only [VR]; rfl⟩
    · cases hc
  · rename_i a k0 e0 hcx hs
    have hx := cX_ok (ds := ds) hR hT hcx
    simp only [Option.some.injEq] at hc; subst hc
    simp only [XOp.look] at h
    rw [Lk, hbegin _ _ hs]
    split at h
    · rename_i e
      rw [e] at hx
      simp only [Option.some.injEq] at h; subst h
      simp only [VR] at hx; rw [hx]
      exact ⟨_, rfl, by simp only [VR]; rfl⟩
    · rename_i r e
      rw [e] at hx
      simp only [VR] at hx
      obtain ⟨q, o, s, hq, hx⟩ := hx
      rw [hx]
      split at h
      · rename_i es cl hb
        simp only [Option.some.injEq] at h; subst h
        obtain ⟨q2, o2, s2, es', hq2, hw, _, hent⟩ := hR.blk _ _ hb
        rw [hq] at hq2; cases hq2
        have hget : (getObj q).run P w = .ok (.map es' cl) w := by simp [getObj, Sem.run, hw]
        have hlen : ∀ {es : List (AV × AV × Nat)} {l : List MapEntry}, entR ρ es l → es.length = l.length := by
          intro es; induction es with
          | nil => intro l hl; simp only [entR] at hl; rw [hl]; rfl
          | cons x es ih => intro l hl; simp only [entR] at hl; obtain ⟨y, ys, rfl, _, _, _, hl⟩ := hl; simp [ih hl]
        refine ⟨goInt es'.size, by simp [hget], ?_⟩
        simp only [VR, goInt]; rw [hlen hent]; simp
      · cases h
    · cases h
  · cases hc

theorem lk_builtin (hR : Rel P B w0 ρ H w) (hT : TR ρ N T tmps) {b : Builtin} {ats : Array TypeId} {args : Array Operand} {q : XOp} (hc : cBuiltin P b ats args.toList = some q) {v : AV} (h : q.look T H = some v)
    (ty : TypeId) (cs : Array Bool) : Lo P w ρ (Go.builtin b ats ty cs (args.map (Act.eval ⟨tmps, ds⟩))) v := by
  unfold cBuiltin at hc
  split at hc
  · rename_i t x ht hargs
    rw [map_list hargs]
    have := lk_len hR hT (ds := ds) ht (x := x) hc h ty
    simp only [Go.builtin]; exact this.up
  · rename_i t x ht hargs
    rw [map_list hargs]
    split at hc
    · rename_i a e hcx hs
      have hx := cX_ok (ds := ds) hR hT hcx
      simp only [Option.some.injEq] at hc; subst hc
      simp only [XOp.look] at h
      split at h
      · rename_i ad n m e1
        rw [e1] at hx
        simp only [Option.some.injEq] at h; subst h
        have : ∃ (a2 : Option Addr), Act.eval ⟨tmps, ds⟩ x = .slice a2 n m := by
          cases ad with
          | none => simp only [VR] at hx; obtain ⟨rfl, rfl, hx⟩ := hx; exact ⟨none, hx⟩
          | some ad =>
            simp only [VR] at hx
            obtain ⟨y, c, hx, _, h2⟩ := hx
            have : c = m := by
              rcases h2 with ⟨_, _, _, _, _, h2, _⟩ | h2
              · exact h2 (by trivial)
              · omega
            subst this; exact ⟨_, hx⟩
        obtain ⟨a2, hx⟩ := this
        refine ⟨goInt m, ?_, by simp only [VR]; rfl⟩
        simp only [List.map_cons, List.map_nil, hx, Go.builtin, Builtin.cap_, ht, List.getElem?_toArray, List.getElem?_cons_zero, Sem.run_bind, run_underlying hs, Result.andThen_ok, Sem.run_pure]
      · cases h
    · cases hc
  · split at hc
    · split at hc
      · split at hc
        · simp only [Option.some.injEq] at hc; subst hc; exact (no_look h rfl).elim
        · cases hc
      · cases hc
    · split at hc
      · split at hc
        · simp only [Option.some.injEq] at hc; subst hc; exact (no_look h rfl).elim
        · cases hc
      · cases hc
    · cases hc
  · split at hc
    · simp only [Option.bind_eq_some_iff] at hc
      obtain ⟨n, _, hc⟩ := hc
      split at hc
      · simp only [Option.some.injEq] at hc; subst hc; exact (no_look h rfl).elim
      · cases hc
    · cases hc
  · split at hc
    · simp only [Option.map_eq_some_iff] at hc
      obtain ⟨n, _, rfl⟩ := hc
      exact (no_look h rfl).elim
    · simp only [Option.some.injEq] at hc; subst hc; exact (no_look h rfl).elim
    · cases hc
  · split at hc
    · simp only [Option.map_eq_some_iff] at hc
      obtain ⟨n, _, rfl⟩ := hc
      exact (no_look h rfl).elim
    · cases hc
  · rename_i ht
    simp only [Option.map_eq_some_iff] at hc
    obtain ⟨xs, hxs, rfl⟩ := hc
    have hl := cXL_ok (ds := ds) hR hT hxs
    rw [map_list rfl]
    simp only [XOp.look] at h
    cases xs with
    | nil => simp at h
    | cons x xs =>
      simp only [List.map_cons] at hl
      rw [VRL_cons_iff] at hl
      obtain ⟨u, us, e, hu, hl⟩ := hl
      rw [e]
      simp only at h
      have h' : (xs.map (·.ev T)).foldl (fun a y => match a with | some v => pmnmx false v y | none => none) (some (x.ev T)) = some v := by
        rw [List.foldl_map]; exact h
      obtain ⟨c, hc, hv⟩ := mnmx_ok (P := P) (w := w) hu hl h'
      exact ⟨c, by simp [Go.builtin, Builtin.min_]; simpa using congrArg (fun r => Result.andThen r fun a w' => Result.ok (Next.value a) w') hc, hv⟩
  · rename_i ht
    simp only [Option.map_eq_some_iff] at hc
    obtain ⟨xs, hxs, rfl⟩ := hc
    have hl := cXL_ok (ds := ds) hR hT hxs
    rw [map_list rfl]
    simp only [XOp.look] at h
    cases xs with
    | nil => simp at h
    | cons x xs =>
      simp only [List.map_cons] at hl
      rw [VRL_cons_iff] at hl
      obtain ⟨u, us, e, hu, hl⟩ := hl
      rw [e]
      simp only at h
      have h' : (xs.map (·.ev T)).foldl (fun a y => match a with | some v => pmnmx true v y | none => none) (some (x.ev T)) = some v := by
        rw [List.foldl_map]; exact h
      obtain ⟨c, hc, hv⟩ := mnmx_ok (P := P) (w := w) hu hl h'
      exact ⟨c, by simp [Go.builtin, Builtin.max_]; simpa using congrArg (fun r => Result.andThen r fun a w' => Result.ok (Next.value a) w') hc, hv⟩
  · cases hc

theorem lk_build (hR : Rel P B w0 ρ H w) (hT : TR ρ N T tmps) {t : TypeId} {parts : Array (Nat × Operand)} {q : XOp} (hc : (match tzero P t, P.underlying t with
    | some z, some (.struct fields) => if fields.toList.all fun f => (tsize P f.type).isSome then (placesS P fields parts.toList).map fun l => XOp.build z l else none
    | some z, some (.array _ e) => (tsize P e).bind fun n => (placesA P n parts.toList).map fun l => .build z l
    | _, _ => none) = some q) {v : AV} (h : q.look T H = some v) : Lk P w ρ (Instr.build t (parts.map fun (i, x) => (i, Act.eval ⟨tmps, ds⟩ x))) v := by
  have hparts : (parts.map fun (i, x) => (i, Act.eval ⟨tmps, ds⟩ x)).toList = parts.toList.map fun p => (p.1, Act.eval ⟨tmps, ds⟩ p.2) := by simp
  split at hc
  · rename_i z fields hz hs
    split at hc
    · rename_i hall
      simp only [Option.map_eq_some_iff] at hc
      obtain ⟨l, hl, rfl⟩ := hc
      simp only [XOp.look, Option.map_eq_some_iff] at h
      obtain ⟨c, hf, rfl⟩ := h
      obtain ⟨zv, n, hzr, hzv, hone, _, _⟩ := run_zero (P := P) (w := w) (ρ := ρ) hz
      obtain ⟨pl, hpl, hlen, hget⟩ := run_places (P := P) (w := w) fields.toList [] (fun f hf => by
        have := List.all_eq_true.1 hall f hf
        exact Option.isSome_iff_exists.1 this)
      have hPL := placesS_ok (ds := ds) hR hT hl (places := pl.toArray) (fun i f n hi hn => by
        rw [List.getElem?_toArray]
        exact hget i f n (by rw [Array.getElem?_toList]; exact hi) hn)
      obtain ⟨cs, hfill, hv, ho⟩ := fill_ok hPL hf hzv hone
      refine ⟨.agg cs, ?_, by simp only [VR]; exact ⟨cs, rfl, hv, ho⟩⟩
      have hm : (fields.mapM (fun f => do pure (f.offset, ← sizeOf f.type) : Field → Sem (Nat × Nat))).run P w = .ok pl.toArray w := by
        rw [Array.mapM_eq_mapM_toList]; simp only [Sem.run_map, hpl, Result.andThen_ok]
      simp only [Instr.build, Sem.run_bind, hzr, Result.andThen_ok, run_underlying hs, hm, hparts, hfill, Sem.run_pure]
    · cases hc
  · rename_i z k e hz hs
    simp only [Option.bind_eq_some_iff, Option.map_eq_some_iff] at hc
    obtain ⟨n, hn, l, hl, rfl⟩ := hc
    simp only [XOp.look, Option.map_eq_some_iff] at h
    obtain ⟨c, hf, rfl⟩ := h
    obtain ⟨zv, n2, hzr, hzv, hone, _, _⟩ := run_zero (P := P) (w := w) (ρ := ρ) hz
    obtain ⟨cs, hfill, hv, ho⟩ := fill_ok (placesA_ok (ds := ds) hR hT hl) hf hzv hone
    refine ⟨.agg cs, ?_, by simp only [VR]; exact ⟨cs, rfl, hv, ho⟩⟩
    simp only [Instr.build, Sem.run_bind, hzr, Result.andThen_ok, run_underlying hs, run_sizeOf hn, hparts, hfill, Sem.run_pure]
  · cases hc

/-- Each operation that turns nothing. -/
theorem look_ok (hR : Rel P B w0 ρ H w) (hT : TR ρ N T tmps) {o : Oper} {q : XOp} (hc : cOp P o.op = some q) {v : AV} (h : q.look T H = some v) : Lo P w ρ (execOp (Act.eval ⟨tmps, ds⟩) o) v := by
  obtain ⟨dst, op, ty, pos, af, gd⟩ := o
  simp only at hc
  cases op with
  | move x =>
    simp only [cOp, Option.map_eq_some_iff] at hc
    obtain ⟨a, ha, rfl⟩ := hc
    simp only [XOp.look, Option.some.injEq] at h; subst h
    exact ⟨_, rfl, cX_ok hR hT ha⟩
  | assign x =>
    simp only [cOp, Option.map_eq_some_iff] at hc
    obtain ⟨a, ha, rfl⟩ := hc
    simp only [XOp.look, Option.some.injEq] at h; subst h
    exact ⟨_, rfl, cX_ok hR hT ha⟩
  | pick c a b =>
    simp only [cOp] at hc
    split at hc
    · rename_i c' a' b' h1 h2 h3
      simp only [Option.some.injEq] at hc; subst hc
      have k1 := cX_ok (ds := ds) hR hT h1
      have k2 := cX_ok (ds := ds) hR hT h2
      have k3 := cX_ok (ds := ds) hR hT h3
      simp only [XOp.look] at h
      split at h
      · rename_i bb e
        rw [e] at k1
        simp only [Option.some.injEq] at h; subst h
        refine ⟨if bb then Act.eval ⟨tmps, ds⟩ a else Act.eval ⟨tmps, ds⟩ b, ?_, ?_⟩
        · simp [execOp, VR_b k1, asBool]
        · cases bb <;> simpa
      · cases h
    · cases hc
  | build t parts => simp only [cOp] at hc; exact (lk_build hR hT hc h).up
  | load t x =>
    simp only [cOp] at hc
    split at hc
    · rename_i a n h1 h2
      split at hc
      · rename_i hu
        simp only [Option.some.injEq] at hc; subst hc
        exact (lk_load hR (cX_ok hR hT h1) h2 hu h).up
      · cases hc
    · cases hc
  | nilCheck x =>
    simp only [cOp, Option.map_eq_some_iff] at hc
    obtain ⟨a, ha, rfl⟩ := hc
    have hx := cX_ok (ds := ds) hR hT ha
    simp only [XOp.look] at h
    split at h
    · rename_i a e
      simp only [Option.some.injEq] at h; subst h
      rw [e] at hx
      obtain ⟨k, o, s, hk, hv⟩ := VR_p hx
      exact ⟨_, by simp only [execOp, hv]; rfl, by rw [← hv]; exact hx⟩
    · rename_i f l1 l2 e
      simp only [Option.some.injEq] at h; subst h
      rw [e] at hx
      have hx' := hx
      simp only [VR, FR] at hx'
      obtain ⟨f', a', b', hv, rfl, _⟩ := hx'
      exact ⟨_, by simp only [execOp, hv]; rfl, by rw [← hv]; exact hx⟩
    · cases h
  | binOp bop xt x y yt => simp only [cOp] at hc; exact (lk_bin hc hR hT h).up
  | unOp uop xt x =>
    simp only [cOp, Option.map_eq_some_iff] at hc
    obtain ⟨a, ha, rfl⟩ := hc
    simp only [XOp.look] at h
    exact (pun_ok (cX_ok hR hT ha) h).up
  | convert s d x => simp only [cOp] at hc; exact (lk_conv hR hT hc h).up
  | makeFunc f a b =>
    simp only [cOp] at hc
    split at hc
    · rename_i a' b' h1 h2
      cases f with
      | func g =>
        simp only [if_true, Option.some.injEq] at hc; subst hc
        simp only [XOp.look, Option.some.injEq] at h; subst h
        have k1 := cXL_ok (ds := ds) hR hT h1
        have k2 := cXL_ok (ds := ds) hR hT h2
        refine ⟨.func (.func g) (a.map (Act.eval ⟨tmps, ds⟩)) (b.map (Act.eval ⟨tmps, ds⟩)), ?_, ?_⟩
        · simp [execOp, Instr.makeFunc]
        · simp only [VR]
          exact ⟨_, _, _, rfl, rfl, by simpa using k1, by simpa using k2⟩
      | _ => simp at hc
    · cases hc
  | slice t x lo hi mx =>
    simp only [cOp] at hc
    split at hc
    · rename_i a lo' hi' mx' h1 h2 h3 h4
      have hx := cX_ok (ds := ds) hR hT h1
      have k2 := cXO_ok (ds := ds) hR hT h2
      have k3 := cXO_ok (ds := ds) hR hT h3
      have k4 := cXO_ok (ds := ds) hR hT h4
      split at hc
      · rename_i hs
        split at hc
        · rename_i hm
          simp only [Option.some.injEq] at hc; subst hc
          have e : mx' = none := by simpa using hm
          subst e
          simp only [Option.map_none, VRO, Option.map_eq_none_iff] at k4
          subst k4
          exact (lk_slstr hs hx k2 k3 h).up
        · cases hc
      · rename_i e hs
        simp only [Option.bind_eq_some_iff] at hc
        obtain ⟨n, hn, hc⟩ := hc
        split at hc
        · rename_i h0
          simp only [Option.some.injEq] at hc; subst hc
          have hiff : mx'.isSome = (mx'.map (·.ev T)).isSome := by simp
          refine (lk_slsl hs hn h0 hx k2 k3 k4 ?_).up
          simp only [XOp.look] at h
          rw [← h, hiff]; rfl
        · cases hc
      · rename_i k e hs
        simp only [Option.map_eq_some_iff] at hc
        obtain ⟨n, hn, rfl⟩ := hc
        exact (lk_slarr hs hn hx k2 k3 k4 h).up
      · cases hc
    · cases hc
  | fieldAddr s x f =>
    simp only [cOp] at hc
    split at hc
    · rename_i fields a hs h1
      split at hc
      · rename_i fd hf
        split at hc
        · rename_i n hn
          split at hc
          · rename_i h0
            simp only [Option.some.injEq] at hc; subst hc
            exact (lk_fadd hs hf hn h0 (cX_ok hR hT h1) h).up
          · cases hc
        · cases hc
      · cases hc
    · cases hc
  | field s x f =>
    simp only [cOp] at hc
    split at hc
    · rename_i fields a hs h1
      split at hc
      · rename_i fd hf
        split at hc
        · rename_i hu
          simp only [Option.map_eq_some_iff] at hc
          obtain ⟨n, hn, rfl⟩ := hc
          exact (lk_fld hs hf hn hu (cX_ok hR hT h1) h).up
        · cases hc
      · cases hc
    · cases hc
  | indexAddr t x i =>
    simp only [cOp] at hc
    split at hc
    · rename_i k e a i' hs h1 h2
      simp only [Option.map_eq_some_iff] at hc
      obtain ⟨n, hn, rfl⟩ := hc
      exact (lk_iarr hs hn (cX_ok hR hT h1) (cX_ok hR hT h2) h).up
    · rename_i e a i' hs h1 h2
      simp only [Option.map_eq_some_iff] at hc
      obtain ⟨n, hn, rfl⟩ := hc
      exact (lk_isl hs hn (cX_ok hR hT h1) (cX_ok hR hT h2) h).up
    · cases hc
  | index t x i =>
    simp only [cOp] at hc
    split at hc
    · rename_i k e a i' hs h1 h2
      split at hc
      · rename_i hu
        simp only [Option.map_eq_some_iff] at hc
        obtain ⟨n, hn, rfl⟩ := hc
        exact (lk_idxa hs hn hu (cX_ok hR hT h1) (cX_ok hR hT h2) h).up
      · cases hc
    · rename_i a i' hs h1 h2
      simp only [Option.some.injEq] at hc; subst hc
      exact (lk_idxs hs (cX_ok hR hT h1) (cX_ok hR hT h2) h).up
    · cases hc
  | lookup t x k ok =>
    simp only [cOp] at hc
    split at hc
    · rename_i kt e a k' hs h1 h2
      split at hc
      · rename_i kd i hk hi
        simp only [Option.map_eq_some_iff, Option.bind_eq_some_iff] at hc
        obtain ⟨z, ⟨zv, hz, hza⟩, rfl⟩ := hc
        simp only [XOp.look] at h
        split at h
        · cases h
        · exact (lk_lookup hR hs hk hi hz hza (cX_ok hR hT h1) (cX_ok hR hT h2) ok h).up
      · cases hc
    · cases hc
  | extract x i =>
    simp only [cOp, Option.map_eq_some_iff] at hc
    obtain ⟨a, ha, rfl⟩ := hc
    have hx := cX_ok (ds := ds) hR hT ha
    simp only [XOp.look] at h
    split at h
    · rename_i l e
      rw [e] at hx
      obtain ⟨cs, hv, hl⟩ := VR_tup hx
      obtain ⟨c, hc, hcv⟩ := VRL_get hl _ _ h
      rw [Array.getElem?_toList] at hc
      exact ⟨c, by simp [execOp, hv, Instr.extract, hc], hcv⟩
    · cases h
  | call c =>
    simp only [cOp] at hc
    split at hc
    · split at hc
      · simp only [Option.some.injEq] at hc; subst hc; exact (no_look h rfl).elim
      · cases hc
    · rename_i b hb
      have := lk_builtin hR hT (ds := ds) hc h ty (c.args.map fun | .const _ => true | _ => false)
      obtain ⟨cv, hr, hv⟩ := this
      refine ⟨cv, ?_, hv⟩
      simp only [execOp, resolve, hb, Sem.run_bind, Sem.run_pure, Result.andThen_ok, invoke]
      exact hr
    · cases hc
  | alloc t =>
    simp only [cOp, Option.map_eq_some_iff] at hc
    obtain ⟨a, ha, rfl⟩ := hc
    exact (no_look h rfl).elim
  | box t x =>
    simp only [cOp, Option.map_eq_some_iff] at hc
    obtain ⟨a, ha, rfl⟩ := hc
    exact (no_look h rfl).elim
  | buildSlice t n ps =>
    simp only [cOp] at hc
    split at hc
    · split at hc
      · split at hc
        · simp only [Option.some.injEq] at hc; subst hc; exact (no_look h rfl).elim
        · cases hc
      · cases hc
    · cases hc
  | store t a v =>
    simp only [cOp] at hc
    split at hc
    · simp only [Option.some.injEq] at hc; subst hc; exact (no_look h rfl).elim
    · cases hc
  | makeMap t r =>
    simp only [cOp] at hc
    split at hc
    · simp only [Option.some.injEq] at hc; subst hc; exact (no_look h rfl).elim
    · simp only [Option.some.injEq] at hc; subst hc; exact (no_look h rfl).elim
    · cases hc
  | makeSlice t l c =>
    simp only [cOp] at hc
    split at hc
    · split at hc
      · split at hc
        · simp only [Option.some.injEq] at hc; subst hc; exact (no_look h rfl).elim
        · cases hc
      · cases hc
    · cases hc
  | mapUpdate t m k v =>
    simp only [cOp] at hc
    split at hc
    · simp only [Option.map_eq_some_iff] at hc
      obtain ⟨a, ha, rfl⟩ := hc
      exact (no_look h rfl).elim
    · cases hc
  | _ => simp [cOp] at hc
end
end Go.Proofs.Ytjheedfobmlalaa.E
