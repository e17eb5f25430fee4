/- A region whose order is open: its operations in one order give what they give in each. It bears no condition. -/
import Derived.Test.YtjheedfobmlalaaE15
namespace Go.Proofs.Ytjheedfobmlalaa.E
open Go.RowKit (Below)
set_option linter.unusedVariables false
set_option linter.unusedSimpArgs false

/-- What the evaluator's run of a region was, step for step. -/
structure Tra (call : CallF) (base : Nat) (os : List XOper) (T : Tm) (H : AH) (T' : Tm) (H' : AH) (Ts : Nat → Tm) (Hs : Nat → AH) (vs : Nat → AV) : Prop where
  T0 : Ts 0 = T
  H0 : Hs 0 = H
  Tn : Ts os.length = T'
  Hn : Hs os.length = H'
  step : ∀ p o, os[p]? = some o → ((o.wanted (Ts p) = true ∧ o.op.mk = false ∧ o.op.run call (Ts p) (Hs p) = some (vs p, Hs (p + 1))) ∨
      (o.wanted (Ts p) = true ∧ o.op.mk = true ∧ ∃ f, o.op.make (Ts p) = some f ∧ vs p = (f (base + o.ix)).1 ∧ Hs (p + 1) = (Hs p).set (base + o.ix) (f (base + o.ix)).2) ∨
      (o.wanted (Ts p) = false ∧ vs p = und ∧ Hs (p + 1) = Hs p)) ∧ Ts (p + 1) = (Ts p).put o.dst (vs p) ∧ (o.op.eff = false → o.op.mk = false → Hs (p + 1) = Hs p)
  watch : ∀ q oq p op, os[q]? = some oq → os[p]? = some op → q < p → oq.wanted (Ts q) = true → oq.op.reads = true → (∀ p' o', q < p' → p' ≤ p → os[p']? = some o' → (o'.op.eff || o'.op.mk) = true → o'.bef.contains oq.ix = false) → oq.op.look (Ts q) (Hs (p + 1)) = some (vs q)

def shift {α : Type} (a : α) (f : Nat → α) : Nat → α
  | 0 => a
  | n + 1 => f n

theorem watchOk_spec {H : AH} : ∀ {W : List Watch}, watchOk H W = true → ∀ x ∈ W, x.op.look x.T H = some x.v
  | [], _, x, hx => by cases hx
  | y :: W, h, x, hx => by
    simp only [watchOk, Bool.and_eq_true] at h
    rcases List.mem_cons.1 hx with rfl | hx
    · cases hl : x.op.look x.T H with
      | none => simp [hl] at h
      | some v => simp only [hl] at h; rw [sameV_eq h.1]
    · exact watchOk_spec h.2 x hx

theorem runDraw_tra {call : CallF} {base : Nat} {T' : Tm} {H' : AH} : ∀ (os : List XOper) (W : List Watch) (T : Tm) (H : AH), (∀ x ∈ W, x.op.look x.T H = some x.v) → runDraw call base os W T H = some (T', H') →
    ∃ Ts Hs vs, Tra call base os T H T' H' Ts Hs vs ∧ ∀ x ∈ W, ∀ p op, os[p]? = some op → (∀ p' o', p' ≤ p → os[p']? = some o' → (o'.op.eff || o'.op.mk) = true → o'.bef.contains x.ix = false) → x.op.look x.T (Hs (p + 1)) = some x.v
  | [], W, T, H, hW, h => by
    simp [runDraw] at h
    obtain ⟨rfl, rfl⟩ := h
    refine ⟨fun _ => T, fun _ => H, fun _ => und, ⟨rfl, rfl, rfl, rfl, ?_, ?_⟩, ?_⟩
    · intro p o h; simp at h
    · intro q oq p op h; simp at h
    · intro x _ p op h; simp at h
  | o :: os, W, T, H, hW, h => by
    -- the tail's run, begun with a watch list W2 at a value v and a heap H1
    have build : ∀ (v : AV) (H1 : AH) (W2 : List Watch), ((o.wanted T = true ∧ o.op.mk = false ∧ o.op.run call T H = some (v, H1)) ∨ (o.wanted T = true ∧ o.op.mk = true ∧ ∃ f, o.op.make T = some f ∧ v = (f (base + o.ix)).1 ∧ H1 = H.set (base + o.ix) (f (base + o.ix)).2) ∨ (o.wanted T = false ∧ v = und ∧ H1 = H)) → (o.op.eff = false → o.op.mk = false → H1 = H) →
        (∀ x ∈ W2, x.op.look x.T H1 = some x.v) → runDraw call base os W2 (T.put o.dst v) H1 = some (T', H') →
        (∀ x ∈ W, ((o.op.eff || o.op.mk) = true → o.bef.contains x.ix = false) → x ∈ W2) → (o.wanted T = true → o.op.reads = true → ⟨o.ix, o.op, T, v⟩ ∈ W2) →
        ∃ Ts Hs vs, Tra call base (o :: os) T H T' H' Ts Hs vs ∧ ∀ x ∈ W, ∀ p op, (o :: os)[p]? = some op → (∀ p' o', p' ≤ p → (o :: os)[p']? = some o' → (o'.op.eff || o'.op.mk) = true → o'.bef.contains x.ix = false) → x.op.look x.T (Hs (p + 1)) = some x.v := by
      intro v H1 W2 hs he hW2 hr hsub hnew
      obtain ⟨Ts, Hs, vs, ht, hw⟩ := runDraw_tra os W2 (T.put o.dst v) H1 hW2 hr
      refine ⟨shift T Ts, shift H Hs, shift v vs, ⟨rfl, rfl, ?_, ?_, ?_, ?_⟩, ?_⟩
      · simpa [shift] using ht.Tn
      · simpa [shift] using ht.Hn
      · intro p o' hp
        cases p with
        | zero =>
          simp at hp; subst hp
          simp only [shift, ht.T0, ht.H0]
          exact ⟨hs, trivial, he⟩
        | succ p => simpa [shift] using ht.step p o' (by simpa using hp)
      · intro q oq p op hq hp hlt hwq hrq hb
        cases q with
        | zero =>
          simp at hq; subst hq
          simp only [shift] at hwq ⊢
          cases p with
          | zero => omega
          | succ p =>
            have := hw _ (hnew hwq hrq) p op (by simpa using hp) fun p' o' h1 h2 h3 => hb (p' + 1) o' (by omega) (by omega) (by simpa using h2) h3
            simpa [shift] using this
        | succ q =>
          cases p with
          | zero => omega
          | succ p =>
            simp only [shift] at hwq ⊢
            exact ht.watch q oq p op (by simpa using hq) (by simpa using hp) (by omega) hwq hrq fun p' o' h1 h2 h3 h4 => hb (p' + 1) o' (by omega) (by omega) (by simpa using h3) h4
      · intro x hx p op hp hb
        have hx2 : x ∈ W2 := hsub x hx fun he => hb 0 o (by omega) rfl he
        cases p with
        | zero => simp only [shift, ht.H0]; exact hW2 x hx2
        | succ p =>
          simp only [shift]
          exact hw x hx2 p op (by simpa using hp) fun p' o' h1 h2 h3 => hb (p' + 1) o' (by omega) (by simpa using h2) h3
    simp only [runDraw] at h
    split at h
    · rename_i hw
      split at h
      · rename_i hmk
        split at h
        · rename_i f hf
          split at h
          · rename_i hok
            refine build _ _ _ (.inr (.inl ⟨hw, hmk, f, hf, rfl, rfl⟩)) (fun _ h => by rw [hmk] at h; cases h) (watchOk_spec hok) h (fun x hx hb => ?_) fun _ hr => ?_
            · simp only [List.mem_filter]; exact ⟨hx, by simpa using hb (by simp [hmk])⟩
            · have := (reads_noeff hr).2; rw [hmk] at this; cases this
          · cases h
        · cases h
      · rename_i hmk
        have hmk' : o.op.mk = false := by simpa using hmk
        split at h
        · rename_i v H1 hrun
          split at h
          · rename_i heff
            split at h
            · rename_i hok
              refine build v H1 _ (.inl ⟨hw, hmk', hrun⟩) (fun h => by rw [heff] at h; cases h) (watchOk_spec hok) h (fun x hx hb => ?_) fun _ hr => ?_
              · simp only [List.mem_filter]; exact ⟨hx, by simpa using hb (by simp [heff])⟩
              · have := (reads_noeff hr).1; rw [heff] at this; cases this
            · cases h
          · rename_i heff
            have he : o.op.eff = false := by simpa using heff
            have hl : o.op.look T H = some v ∧ H1 = H := by
              rw [run_look he hmk'] at hrun
              simp only [Option.map_eq_some_iff, Prod.mk.injEq] at hrun
              obtain ⟨_, h1, rfl, h2⟩ := hrun
              exact ⟨h1, h2.symm⟩
            obtain ⟨hl, rfl⟩ := hl
            refine build v H1 _ (.inl ⟨hw, hmk', hrun⟩) (fun _ _ => rfl) ?_ h (fun x hx _ => ?_) fun _ hr => ?_
            · intro x hx
              split at hx
              · rcases List.mem_cons.1 hx with rfl | hx
                · exact hl
                · exact hW x hx
              · exact hW x hx
            · split
              · exact List.mem_cons_of_mem _ hx
              · exact hx
            · rw [if_pos hr]; exact List.mem_cons_self
        · cases h
    · rename_i hw
      refine build und H W (.inr (.inr ⟨by simpa using hw, rfl, rfl⟩)) (fun _ _ => rfl) hW h (fun x hx _ => hx) fun h _ => absurd h hw

theorem okDraw_at : ∀ {os pre : List XOper}, okDraw pre os = true → ∀ q o, os[q]? = some o → okStep (pre ++ os.take q) o = true
  | [], pre, _, q, o, h => by simp at h
  | x :: os, pre, h, q, o, hq => by
    simp only [okDraw, Bool.and_eq_true] at h
    cases q with
    | zero => simp at hq; subst hq; simpa using h.1
    | succ q =>
      have := okDraw_at h.2 q o (by simpa using hq)
      simpa using this

/-- What the checks say of a region. -/
structure Reg (P : Program) (N : Nat) (ops : Array Oper) (bef : Nat → List Nat) (os : List XOper) : Prop where
  each : ∀ (p : Nat) (o : XOper), os[p]? = some o → ∃ c g, ops[o.ix]? = some c ∧ o.dst = c.dst ∧ o.op = cOpD P c.op ∧ cGuard ops c = some g ∧ o.guard = g ∧ c.dst.all (· < N) = true ∧ o.bef = bef o.ix
  all : ∀ i, i < ops.size → ∃ (p : Nat) (o : XOper), os[p]? = some o ∧ o.ix = i
  chk : ∀ i, i < ops.size → befChk ops bef i = true
  top : ∀ (q : Nat) (o : XOper), os[q]? = some o → ∀ j ∈ o.bef, ∃ (p : Nat) (o' : XOper), p < q ∧ os[p]? = some o' ∧ o'.ix = j
  inj : ∀ (p q : Nat) (a b : XOper), os[p]? = some a → os[q]? = some b → a.ix = b.ix → p = q
  chain : ∀ (p q : Nat) (a b : XOper), os[p]? = some a → os[q]? = some b → p < q → a.op.eff = true → b.op.eff = true → a.ix ∈ b.bef
  mkE : ∀ (p q : Nat) (a b : XOper), os[p]? = some a → os[q]? = some b → p < q → a.op.mk = true → b.op.eff = true → a.ix ∈ b.bef
  mkR : ∀ (p q : Nat) (a b : XOper), os[p]? = some a → os[q]? = some b → p < q → a.op.mk = true → b.op.reads = true → a.ix ∈ b.bef
  last : ∀ (p q : Nat) (a b : XOper), os[p]? = some a → os[q]? = some b → p < q → a.op.eff = true → b.op.reads = true → (∀ p' a', p < p' → p' < q → os[p']? = some a' → a'.op.eff = false) → a.ix ∈ b.bef
  tmp : ∀ (p q : Nat) (a b : XOper), os[p]? = some a → os[q]? = some b → p < q → a.ix ∈ b.bef ∨ ((∀ d, a.dst = some d → d ∉ b.rds ∧ b.dst ≠ some d) ∧ ∀ d, b.dst = some d → d ∉ a.rds)

theorem cOpers_at {P : Program} {N : Nat} {ops : Array Oper} {bef : Nat → List Nat} : ∀ {is : List Nat} {l : List XOper}, cOpers P N ops bef is = some l → ∀ (p : Nat) (o : XOper), l[p]? = some o →
    ∃ c g, ops[o.ix]? = some c ∧ o.dst = c.dst ∧ o.op = cOpD P c.op ∧ cGuard ops c = some g ∧ o.guard = g ∧ c.dst.all (· < N) = true ∧ o.bef = bef o.ix
  | [], l, h, p, o, ho => by simp [cOpers] at h; subst h; simp at ho
  | i :: is, l, h, p, o, ho => by
    simp only [cOpers] at h
    split at h
    · rename_i c hc
      split at h
      · rename_i g l' hg hl
        split at h
        · rename_i hd
          simp only [Option.some.injEq] at h; subst h
          cases p with
          | zero => simp at ho; subst ho; exact ⟨c, g, hc, rfl, rfl, hg, rfl, hd, rfl⟩
          | succ p => exact cOpers_at hl p o (by simpa using ho)
        · cases h
      · cases h
    · cases h

theorem take_mem {α : Type} {l : List α} {q p : Nat} {a : α} (h : l[p]? = some a) (hp : p < q) : a ∈ l.take q := by
  have : (l.take q)[p]? = some a := by rw [List.getElem?_take_of_lt hp]; exact h
  exact List.mem_of_getElem? this
theorem mem_take {α : Type} {l : List α} {q : Nat} {a : α} (h : a ∈ l.take q) : ∃ p, p < q ∧ l[p]? = some a := by
  obtain ⟨p, hp⟩ := List.getElem?_of_mem h
  by_cases hq : p < q
  · rw [List.getElem?_take_of_lt hq] at hp; exact ⟨p, hq, hp⟩
  · rw [List.getElem?_take_eq_none (by omega)] at hp; cases hp

theorem reg_of {P : Program} {N : Nat} {ops : Array Oper} {bef : Nat → List Nat} {is : List Nat} {os : List XOper} (h : cOpers P N ops bef is = some os) (hok : okDraw [] os = true)
    (hall : ((List.range ops.size).all fun i => befChk ops bef i && os.any fun o => o.ix == i) = true) : Reg P N ops bef os := by
  have hst := fun q o hq => okDraw_at hok q o hq
  simp only [List.nil_append, okStep, Bool.and_eq_true] at hst
  have hall' : ∀ i, i < ops.size → befChk ops bef i = true ∧ (os.any fun o => o.ix == i) = true := fun i hi => by
    have := List.all_eq_true.1 hall i (List.mem_range.2 hi)
    simpa using this
  have distinct : ∀ (p q : Nat) (a b : XOper), os[p]? = some a → os[q]? = some b → p < q → a.ix ≠ b.ix := fun p q a b ha hb hlt => by
    have := (hst q b hb).1.1.1.1.2
    have := List.all_eq_true.1 this a (take_mem ha hlt)
    simpa using this
  refine ⟨cOpers_at h, fun i hi => ?_, fun i hi => (hall' i hi).1, fun q o hq j hj => ?_, fun p q a b ha hb e => ?_, fun p q a b ha hb hlt ea eb => ?_, fun p q a b ha hb hlt ea eb => ?_, fun p q a b ha hb hlt ea eb => ?_, fun p q a b ha hb hlt ea rb hno => ?_, fun p q a b ha hb hlt => ?_⟩
  · obtain ⟨o, ho, e⟩ := List.any_eq_true.1 (hall' i hi).2
    obtain ⟨p, hp⟩ := List.getElem?_of_mem ho
    exact ⟨p, o, hp, by simpa using e⟩
  · have := (hst q o hq).1.1.1.1.1
    have := List.all_eq_true.1 this j hj
    obtain ⟨o', ho', e⟩ := List.any_eq_true.1 this
    obtain ⟨p, hp, hp2⟩ := mem_take ho'
    exact ⟨p, o', hp, hp2, by simpa using e⟩
  · rcases Nat.lt_trichotomy p q with h1 | h1 | h1
    · exact absurd e (distinct p q a b ha hb h1)
    · exact h1
    · exact absurd e.symm (distinct q p b a hb ha h1)
  · have := (hst q b hb).1.1.1.2
    simp only [eb, Bool.not_true, Bool.false_or] at this
    have := List.all_eq_true.1 this a (take_mem ha hlt)
    simpa [ea] using this
  · have := (hst q b hb).1.1.1.2
    simp only [eb, Bool.not_true, Bool.false_or] at this
    have := List.all_eq_true.1 this a (take_mem ha hlt)
    simpa [ea] using this
  · have := (hst q b hb).1.1.2
    simp only [eb, Bool.not_true, Bool.false_or] at this
    have := List.all_eq_true.1 this a (take_mem ha hlt)
    simpa [ea] using this
  · have := (hst q b hb).1.2
    simp only [rb, Bool.not_true, Bool.false_or] at this
    have hlast : ((os.take q).filter fun p => p.op.eff).getLast? = some a := by
      have hq : q ≤ os.length := Nat.le_of_lt (List.getElem?_eq_some_iff.1 hb).1
      have hsplit : os.take q = os.take p ++ a :: (os.take q).drop (p + 1) := by
        have hp : p < (os.take q).length := by simp; omega
        have e1 : (os.take q)[p]? = some a := by rw [List.getElem?_take_of_lt hlt]; exact ha
        have e2 : (os.take q)[p] = a := (List.getElem?_eq_some_iff.1 e1).2
        conv => lhs; rw [← List.take_append_drop p (os.take q)]
        rw [List.take_take, Nat.min_eq_left (Nat.le_of_lt hlt)]
        congr 1
        rw [List.drop_eq_getElem_cons hp, e2]
      rw [hsplit, List.filter_append]
      have hnil : ((os.take q).drop (p + 1)).filter (fun p => p.op.eff) = [] := by
        rw [List.filter_eq_nil_iff]
        intro x hx
        obtain ⟨r, hr⟩ := List.getElem?_of_mem hx
        rw [List.getElem?_drop] at hr
        by_cases hrq : p + 1 + r < q
        · rw [List.getElem?_take_of_lt hrq] at hr
          have := hno (p + 1 + r) x (by omega) hrq hr
          simp [this]
        · rw [List.getElem?_take_eq_none (by omega)] at hr; cases hr
      rw [List.filter_cons_of_pos (by simpa using ea), hnil]
      simp
    rw [hlast] at this
    simpa using this
  · have := (hst q b hb).2
    have := List.all_eq_true.1 this a (take_mem ha hlt)
    simp only [Bool.or_eq_true, Bool.and_eq_true] at this
    rcases this with h1 | ⟨h1, h2⟩
    · exact .inl (by simpa using h1)
    · refine .inr ⟨fun d hd => ?_, fun d hd => ?_⟩
      · rw [hd] at h1; simpa using h1
      · rw [hd] at h2; simpa using h2
end Go.Proofs.Ytjheedfobmlalaa.E
