/- The arguments of a call, as the evaluator's values. It bears no condition. -/
import Derived.Test.YtjheedfobmlalaaE20
import Derived.ChangeShapes
namespace Go.Proofs.Ytjheedfobmlalaa.E
open Go.RowKit (Below)
set_option linter.unusedVariables false
set_option linter.unusedSimpArgs false

section
variable {P : Program} {B : Nat} {w0 W : World} {ρ : Rho} {H : AH}

/-- No block may be written. -/
def RO (H : AH) : Prop := ∀ n b, H.get n = some b → b.mutable = false
/-- Names and blocks more. -/
structure Gr (ρ : Rho) (H : AH) (ρ' : Rho) (H' : AH) : Prop where
  ext : Ext ρ ρ'
  get : ∀ n b, H.get n = some b → H'.get n = some b
theorem Gr.refl (ρ : Rho) (H : AH) : Gr ρ H ρ H := ⟨Ext.refl ρ, fun _ _ h => h⟩
theorem Gr.trans {a b c : Rho} {I J K : AH} (h : Gr a I b J) (k : Gr b J c K) : Gr a I c K := ⟨h.ext.trans k.ext, fun n x e => k.get n x (h.get n x e)⟩

def tiles (P : Program) : List Field → Nat → Nat → Bool
  | [], s, n => s == n
  | f :: r, s, n => f.offset == s && tiles P r (s + P.cellsOf f.type) n
/-- Types of numbers, bools, texts, slices, structs and arrays of such, laid without gaps. -/
def fit (P : Program) : Nat → TypeId → Bool
  | 0, _ => false
  | k + 1, t =>
    match P.underlying t with
    | some .bool | some (.int _) | some .string => P.cellsOf t == 1
    | some (.slice e) => P.cellsOf t == 1 && decide (0 < P.cellsOf e) && fit P k e
    | some (.struct fs) => tiles P fs.toList 0 (P.cellsOf t) && fs.toList.all fun f => fit P k f.type
    | some (.array n e) => P.cellsOf t == n * P.cellsOf e && fit P k e
    | _ => false

/-- What cells of a type are. -/
def Typed (P : Program) (H : AH) : Nat → TypeId → List AV → Prop
  | 0, _, _ => False
  | k + 1, t, l =>
    match P.underlying t with
    | some .bool => ∃ b, l = [.b b]
    | some (.int kd) => ∃ n, l = [.i kd n] ∧ (Lit.int kd n).wf = true
    | some .string => ∃ s, l = [.s s] ∧ s.size ≤ maxLen
    | some (.slice e) => l = [.sl none 0 0 0] ∨ l = [.sl (some (0, 0)) 0 0 0] ∨ ∃ b len cap c, l = [.sl (some (b, 0)) len cap 0] ∧ len ≤ cap ∧ 0 < cap ∧ cap ≤ maxLen ∧ H.get b = some (.cells c false) ∧ c.length = cap * P.cellsOf e ∧
        ∀ i, i < cap → Typed P H k e ((c.drop (i * P.cellsOf e)).take (P.cellsOf e))
    | some (.struct fs) => l.length = P.cellsOf t ∧ ∀ f ∈ fs.toList, Typed P H k f.type ((l.drop f.offset).take (P.cellsOf f.type))
    | some (.array n e) => l.length = P.cellsOf t ∧ ∀ i, i < n → Typed P H k e ((l.drop (i * P.cellsOf e)).take (P.cellsOf e))
    | _ => False

theorem Typed.mono {H H' : AH} (hg : ∀ n b, H.get n = some b → H'.get n = some b) : ∀ (k : Nat) (t : TypeId) (l : List AV), Typed P H k t l → Typed P H' k t l
  | 0, _, _, h => h
  | k + 1, t, l, h => by
    unfold Typed at h ⊢
    split at h
    · exact h
    · exact h
    · exact h
    · rcases h with h | h | ⟨b, len, cap, c, h1, h2, h3, h7, h4, h5, h6⟩
      · exact .inl h
      · exact .inr (.inl h)
      · exact .inr (.inr ⟨b, len, cap, c, h1, h2, h3, h7, hg _ _ h4, h5, fun i hi => Typed.mono hg k _ _ (h6 i hi)⟩)
    · exact ⟨h.1, fun f hf => Typed.mono hg k _ _ (h.2 f hf)⟩
    · exact ⟨h.1, fun i hi => Typed.mono hg k _ _ (h.2 i hi)⟩
    · exact h

/-- What is had of cells, when they are read as data. -/
def Got (P : Program) (B : Nat) (w0 W : World) (ρ : Rho) (H : AH) (cs : List Value) (T : AH → List AV → Prop) : Prop :=
  ∃ ρ' H' l, Rel P B w0 ρ' H' W ∧ RO H' ∧ Gr ρ H ρ' H' ∧ VRL ρ' l cs ∧ (∀ x ∈ l, AV.one x = true) ∧ T H' l

theorem mapM_cons_some {α β : Type} {f : α → Option β} {x : α} {l : List α} {r : List β} (h : (x :: l).mapM f = some r) : ∃ y ys, f x = some y ∧ l.mapM f = some ys ∧ r = y :: ys := by
  rw [List.mapM_cons] at h
  cases hx : f x with
  | none => simp [hx] at h
  | some y =>
    cases hl : l.mapM f with
    | none => simp [hx, hl] at h
    | some ys => simp [hx, hl] at h; exact ⟨y, ys, rfl, rfl, h.symm⟩

theorem Got.nil {T : AH → List AV → Prop} (hR : Rel P B w0 ρ H W) (hro : RO H) (hT : T H []) : Got P B w0 W ρ H [] T := ⟨ρ, H, [], hR, hro, Gr.refl ρ H, VRL_nil, by simp, hT⟩
theorem Got.one {T : AH → List AV → Prop} {x : AV} {v : Value} (hR : Rel P B w0 ρ H W) (hro : RO H) (hx : VR ρ x v) (ho : AV.one x = true) (hT : T H [x]) : Got P B w0 W ρ H [v] T :=
  ⟨ρ, H, [x], hR, hro, Gr.refl ρ H, VRL_cons hx VRL_nil, by simpa using ho, hT⟩
theorem Got.append {cs ds : List Value} {S T : AH → List AV → Prop} (hS : ∀ H H' l, (∀ n b, H.get n = some b → H'.get n = some b) → S H l → S H' l) (h : Got P B w0 W ρ H cs S) (k : ∀ ρ H, Rel P B w0 ρ H W → RO H → Got P B w0 W ρ H ds T) :
    Got P B w0 W ρ H (cs ++ ds) (fun H l => ∃ a b, l = a ++ b ∧ a.length = cs.length ∧ b.length = ds.length ∧ S H a ∧ T H b) := by
  obtain ⟨ρ1, H1, l1, r1, o1, g1, v1, n1, t1⟩ := h
  obtain ⟨ρ2, H2, l2, r2, o2, g2, v2, n2, t2⟩ := k ρ1 H1 r1 o1
  exact ⟨ρ2, H2, l1 ++ l2, r2, o2, g1.trans g2, VRL_append (VRL_mono g2.ext v1) v2, fun x hx => (List.mem_append.1 hx).elim (n1 x) (n2 x), l1, l2, rfl, VRL_len v1, VRL_len v2, hS _ _ _ g2.get t1, t2⟩
theorem Got.mono {cs : List Value} {S T : AH → List AV → Prop} (h : Got P B w0 W ρ H cs S) (hs : ∀ H l, l.length = cs.length → S H l → T H l) : Got P B w0 W ρ H cs T := by
  obtain ⟨ρ1, H1, l1, r1, o1, g1, v1, n1, t1⟩ := h
  exact ⟨ρ1, H1, l1, r1, o1, g1, v1, n1, hs _ _ (VRL_len v1) t1⟩

theorem elems_got {z : Nat} {T : AH → List AV → Prop} (hT : ∀ H H' l, (∀ n b, H.get n = some b → H'.get n = some b) → T H l → T H' l) : ∀ (css : List (List Value)), (∀ c ∈ css, c.length = z ∧ ∀ ρ H, Rel P B w0 ρ H W → RO H → Got P B w0 W ρ H c T) →
    ∀ ρ H, Rel P B w0 ρ H W → RO H → Got P B w0 W ρ H css.flatten (fun H l => ∀ i, i < css.length → T H ((l.drop (i * z)).take z))
  | [], _, ρ, H, hR, hro => Got.nil hR hro (fun i hi => by simp at hi)
  | c :: css, h, ρ, H, hR, hro => by
    obtain ⟨hz, hc⟩ := h c (List.mem_cons_self ..)
    rw [List.flatten_cons]
    refine (Got.append hT (hc ρ H hR hro) (elems_got hT css fun d hd => h d (List.mem_cons_of_mem _ hd))).mono fun H l _ ⟨a, b, e, ha, hb, h1, h2⟩ i hi => ?_
    subst e
    cases i with
    | zero => simpa [← hz, ← ha] using h1
    | succ i =>
      have := h2 i (by simpa using hi)
      have e : (a ++ b).drop ((i + 1) * z) = b.drop (i * z) := by
        rw [Nat.succ_mul, Nat.add_comm, List.drop_append, List.drop_eq_nil_of_le (by omega)]
        simp only [List.nil_append]
        congr 1; omega
      rw [e]; exact this

theorem fields_got {k n : Nat} {cs : List Value} (hn : cs.length = n) : ∀ (fs : List Field) (s : Nat), tiles P fs s n = true → (∀ f ∈ fs, ∀ ρ H, Rel P B w0 ρ H W → RO H → Got P B w0 W ρ H ((cs.drop f.offset).take (P.cellsOf f.type)) (fun H l => Typed P H k f.type l)) →
    s ≤ n ∧ ∀ ρ H, Rel P B w0 ρ H W → RO H → Got P B w0 W ρ H (cs.drop s) (fun H l => ∀ f ∈ fs, s ≤ f.offset ∧ Typed P H k f.type ((l.drop (f.offset - s)).take (P.cellsOf f.type)))
  | [], s, ht, _ => by
    simp only [tiles, beq_iff_eq] at ht
    subst ht
    refine ⟨Nat.le_refl _, fun ρ H hR hro => ?_⟩
    rw [List.drop_eq_nil_of_le (by omega)]
    exact Got.nil hR hro (by simp)
  | f :: fs, s, ht, h => by
    simp only [tiles, Bool.and_eq_true, beq_iff_eq] at ht
    obtain ⟨hoff, ht⟩ := ht
    obtain ⟨hle, ih⟩ := fields_got hn fs (s + P.cellsOf f.type) ht fun g hg => h g (List.mem_cons_of_mem _ hg)
    refine ⟨by omega, fun ρ H hR hro => ?_⟩
    have e : cs.drop s = (cs.drop f.offset).take (P.cellsOf f.type) ++ cs.drop (s + P.cellsOf f.type) := by
      rw [hoff, ← List.drop_drop, List.take_append_drop]
    rw [e]
    have hl : ((cs.drop f.offset).take (P.cellsOf f.type)).length = P.cellsOf f.type := by simp; omega
    refine (Got.append (S := fun H l => Typed P H k f.type l) (fun _ _ _ hg hh => Typed.mono hg k _ _ hh) (h f (List.mem_cons_self ..) ρ H hR hro) ih).mono fun H l _ ⟨a, b, e, ha, hb, h1, h2⟩ g hg => ?_
    subst e
    rw [hl] at ha
    rcases List.mem_cons.1 hg with rfl | hg
    · refine ⟨by omega, ?_⟩
      rw [hoff, Nat.sub_self, List.drop_zero, ← ha, List.take_left]
      exact h1
    · obtain ⟨g1, g2⟩ := h2 g hg
      refine ⟨by omega, ?_⟩
      have e : (a ++ b).drop (g.offset - s) = b.drop (g.offset - (s + P.cellsOf f.type)) := by
        rw [List.drop_append, List.drop_eq_nil_of_le (by omega), List.nil_append]
        congr 1; omega
      rw [e]; exact g2

theorem flat_take {α : Type} (L : List α) (z : Nat) : ∀ n, ((List.range n).map fun i => (L.drop (i * z)).take z).flatten = L.take (n * z)
  | 0 => by simp
  | n + 1 => by
    rw [List.range_succ, List.map_append, List.flatten_append, flat_take L z n, Nat.succ_mul]
    simp [List.take_add]

theorem mapM_at {α β : Type} {f : α → Option β} : ∀ {l : List α} {r : List β}, l.mapM f = some r → ∀ x ∈ l, ∃ y, f x = some y
  | [], _, _, x, hx => by simp at hx
  | a :: l, r, h, x, hx => by
    obtain ⟨y, ys, h1, h2, _⟩ := mapM_cons_some h
    rcases List.mem_cons.1 hx with rfl | hx
    · exact ⟨y, h1⟩
    · exact mapM_at h2 x hx
theorem mapM_range_get {β : Type} {f : Nat → Option β} {n : Nat} {r : List β} (h : (List.range n).mapM f = some r) : r.length = n ∧ ∀ i, i < n → f i = r[i]? := by
  have key : ∀ (l : List Nat) (r : List β), l.mapM f = some r → r.length = l.length ∧ ∀ (i : Nat) (x : Nat), l[i]? = some x → f x = r[i]? := by
    intro l
    induction l with
    | nil => intro r h; simp at h; subst h; simp
    | cons a l ih =>
      intro r h
      obtain ⟨y, ys, h1, h2, rfl⟩ := mapM_cons_some h
      obtain ⟨q1, q2⟩ := ih ys h2
      refine ⟨by simp [q1], fun i x e => ?_⟩
      cases i with
      | zero => simp at e; subst e; simpa using h1
      | succ i => simpa using q2 i x (by simpa using e)
  obtain ⟨h1, h2⟩ := key _ _ h
  exact ⟨by simpa using h1, fun i hi => h2 i i (by simp [hi])⟩

/-- Cells read from a row. -/
theorem cells_at {b : Nat} {a : Addr} {n : Nat} {l : List Value} (h : W.cells? b a n = some l) (hn : 0 < n) : ∃ cs t fr, W.heap[a.block]? = some (.cells cs t fr) ∧ a.spot = none ∧ a.off + n ≤ cs.size ∧ l = (cs.toList.drop a.off).take n := by
  unfold World.cells? at h
  split at h
  · obtain ⟨hl, hg⟩ := mapM_range_get h
    have h0 := hg 0 hn
    simp only [Addr.add, if_true] at h0
    rw [List.getElem?_eq_getElem (by omega)] at h0
    unfold World.cell? at h0
    split at h0
    · rename_i cs t fr hw
      split at h0
      · cases h0
      · rename_i hs
        have hs' : a.spot = none := by simpa using hs
        have hat : ∀ i, i < n → cs[a.off + i]? = l[i]? := fun i hi => by
          rw [← hg i hi]
          unfold World.cell? Addr.add
          by_cases e : i = 0
          · subst e; simp [hw, hs']
          · simp [e, hw]
        have hsz : a.off + n ≤ cs.size := by
          have := hat (n - 1) (by omega)
          rw [List.getElem?_eq_getElem (by omega)] at this
          have := (Array.getElem?_eq_some_iff.1 this).1
          omega
        refine ⟨cs, t, fr, hw, hs', hsz, ?_⟩
        apply List.ext_getElem?
        intro i
        by_cases hi : i < n
        · rw [← hat i hi, List.getElem?_take_of_lt hi, List.getElem?_drop, Array.getElem?_toList]
        · rw [List.getElem?_eq_none (by omega), List.getElem?_take_eq_none (by omega)]
    · cases h0
  · cases h


section kinds
variable {D : Type} {enc : TypeId × Value → D} {fuel : Nat} {t : TypeId} {cs : List Value} {x : DataW D × List MemPlace}
theorem trod_bool (hu : P.underlying t = some .bool) (h : DataW.trod enc P W 0 (fun _ => true) true (fuel + 1) t cs = some x) : ∃ b, cs = [.bool b] := by
  simp only [DataW.trod, hu] at h
  split at h <;> first | (cases h; done) | (simp_all; done)
theorem trod_int {k : IntKind} (hu : P.underlying t = some (.int k)) (h : DataW.trod enc P W 0 (fun _ => true) true (fuel + 1) t cs = some x) : ∃ n, cs = [.int k n] ∧ (Lit.int k n).wf = true := by
  simp only [DataW.trod, hu] at h
  split at h <;> (simp_all; done)
theorem trod_string (hu : P.underlying t = some .string) (h : DataW.trod enc P W 0 (fun _ => true) true (fuel + 1) t cs = some x) : ∃ s, cs = [.string s] ∧ s.size ≤ maxLen := by
  simp only [DataW.trod, hu] at h
  split at h <;> (simp_all; done)
theorem trod_slice {e : TypeId} (hu : P.underlying t = some (.slice e)) (h : DataW.trod enc P W 0 (fun _ => true) true (fuel + 1) t cs = some x) : cs = [.slice none 0 0] ∨ ∃ a len cap, cs = [.slice (some a) len cap] ∧ len ≤ cap ∧ cap ≤ maxLen ∧
    ∀ i, i < cap → ∃ l y, W.cells? 0 (a.add (i * P.cellsOf e)) (P.cellsOf e) = some l ∧ DataW.trod enc P W 0 (fun _ => true) true fuel e l = some y := by
  simp only [DataW.trod, hu] at h
  split at h <;> (try (simp_all; done))
  rename_i e2 a len cap he
  simp only [Option.some.injEq, TypeDesc.slice.injEq] at he; subst he
  split at h <;> (try (simp_all; done))
  rename_i hc
  refine .inr ⟨a, len, cap, rfl, hc.2.1, hc.2.2, fun i hi => ?_⟩
  simp only [if_true, Option.bind_eq_some_iff, Option.map_eq_some_iff] at h
  obtain ⟨es, h1, rs, h2, _⟩ := h
  by_cases hil : i < len
  · obtain ⟨y, hy⟩ := mapM_at h1 i (List.mem_range.2 hil)
    exact ⟨_, y, (Option.bind_eq_some_iff.1 hy).choose_spec⟩
  · obtain ⟨y, hy⟩ := mapM_at h2 (i - len) (List.mem_range.2 (by omega))
    rw [show len + (i - len) = i by omega] at hy
    exact ⟨_, y, (Option.bind_eq_some_iff.1 hy).choose_spec⟩
theorem trod_struct {fs : Array Field} (hu : P.underlying t = some (.struct fs)) (h : DataW.trod enc P W 0 (fun _ => true) true (fuel + 1) t cs = some x) : cs.length = P.cellsOf t ∧
    ∀ f ∈ fs.toList, ∃ y, DataW.trod enc P W 0 (fun _ => true) true fuel f.type ((cs.drop f.offset).take (P.cellsOf f.type)) = some y := by
  simp only [DataW.trod, hu] at h
  split at h <;> (try (simp_all; done))
  simp only [Option.map_eq_some_iff] at h
  obtain ⟨_, h, _⟩ := h
  exact ⟨by assumption, fun f hf => mapM_at h f hf⟩
theorem trod_array {n : Nat} {e : TypeId} (hu : P.underlying t = some (.array n e)) (h : DataW.trod enc P W 0 (fun _ => true) true (fuel + 1) t cs = some x) : cs.length = P.cellsOf t ∧
    ∀ i, i < n → ∃ y, DataW.trod enc P W 0 (fun _ => true) true fuel e ((cs.drop (i * P.cellsOf e)).take (P.cellsOf e)) = some y := by
  simp only [DataW.trod, hu] at h
  split at h <;> (try (simp_all; done))
  simp only [Option.map_eq_some_iff] at h
  obtain ⟨_, h, _⟩ := h
  exact ⟨by assumption, fun i hi => mapM_at h i (List.mem_range.2 hi)⟩
end kinds

/-- Cells that are read as data of a type, and are of it. -/
theorem trod_got {D : Type} {enc : TypeId × Value → D} : ∀ (k : Nat) (t : TypeId), fit P k t = true → ∀ (fuel : Nat) (cs : List Value) (x : DataW D × List MemPlace), DataW.trod enc P W 0 (fun _ => true) true fuel t cs = some x →
    ∀ ρ H, Rel P B w0 ρ H W → RO H → Got P B w0 W ρ H cs (fun H l => Typed P H k t l)
  | 0, t, hf, _, _, _, _, _, _, _, _ => by simp [fit] at hf
  | k + 1, t, hf, 0, cs, x, h, ρ, H, hR, hro => by simp [DataW.trod] at h
  | k + 1, t, hf, fuel + 1, cs, x, h, ρ, H, hR, hro => by
    unfold fit at hf
    split at hf
    · rename_i hu
      obtain ⟨b, rfl⟩ := trod_bool hu h
      simp only [Typed, hu]
      exact Got.one (x := .b b) hR hro (by simp only [VR]) rfl ⟨b, rfl⟩
    · rename_i kd hu
      obtain ⟨n, rfl, hw⟩ := trod_int hu h
      simp only [Typed, hu]
      exact Got.one (x := .i kd n) hR hro (by simp only [VR]) rfl ⟨n, rfl, hw⟩
    · rename_i hu
      obtain ⟨s, rfl, hs⟩ := trod_string hu h
      simp only [Typed, hu]
      exact Got.one (x := .s s) hR hro (by simp only [VR]) rfl ⟨s, rfl, hs⟩
    · rename_i e hu
      simp only [Bool.and_eq_true, beq_iff_eq, decide_eq_true_eq] at hf
      simp only [Typed, hu]
      rcases trod_slice hu h with rfl | ⟨a, len, cap, rfl, hlc, hcm, hel⟩
      · exact Got.one (x := .sl none 0 0 0) hR hro (by simp [VR]) rfl (.inl rfl)
      · by_cases hc0 : cap = 0
        · have hl0 : len = 0 := by omega
          subst hc0 hl0
          exact Got.one (x := .sl (some (0, 0)) 0 0 0) hR hro (by unfold VR; exact ⟨a, 0, rfl, Nat.le_refl _, .inr ⟨rfl, rfl, rfl⟩⟩) rfl (.inr (.inl rfl))
        · have hz := hf.1.2
          have hcap : 0 < cap := by omega
          obtain ⟨l0, y0, hl0, _⟩ := hel 0 hcap
          rw [Nat.zero_mul] at hl0
          obtain ⟨bs, bt, fr, hw, hs, _, _⟩ := cells_at (a := a) hl0 hz
          have hat : ∀ i, i < cap → a.off + i * P.cellsOf e + P.cellsOf e ≤ bs.size ∧ ∃ y, DataW.trod enc P W 0 (fun _ => true) true fuel e (((bs.toList.drop a.off).drop (i * P.cellsOf e)).take (P.cellsOf e)) = some y := fun i hi => by
            obtain ⟨l, y, hl, hy⟩ := hel i hi
            obtain ⟨bs2, bt2, fr2, hw2, _, hsz, rfl⟩ := cells_at hl hz
            have ha : (a.add (i * P.cellsOf e)).block = a.block ∧ (a.add (i * P.cellsOf e)).off = a.off + i * P.cellsOf e := by
              unfold Addr.add; split
              · rename_i e0; rw [e0]; simp
              · exact ⟨rfl, rfl⟩
            rw [ha.1, hw] at hw2; cases hw2
            rw [ha.2] at hsz hy
            exact ⟨hsz, y, by rw [List.drop_drop]; exact hy⟩
          have hbig : a.off + cap * P.cellsOf e ≤ bs.size := by
            have := (hat (cap - 1) (by omega)).1
            obtain ⟨c', rfl⟩ : ∃ c', cap = c' + 1 := ⟨cap - 1, by omega⟩
            rw [Nat.succ_mul]
            simpa [Nat.add_assoc] using this
          have hg := elems_got (P := P) (B := B) (w0 := w0) (W := W) (z := P.cellsOf e) (T := fun H l => Typed P H k e l) (fun _ _ _ hg hh => Typed.mono hg k _ _ hh) ((List.range cap).map fun i => ((bs.toList.drop a.off).drop (i * P.cellsOf e)).take (P.cellsOf e)) (fun c hc => by
            obtain ⟨i, hi, rfl⟩ := List.mem_map.1 hc
            obtain ⟨hsz, y, hy⟩ := hat i (List.mem_range.1 hi)
            refine ⟨?_, fun ρ H hR hro => trod_got k e hf.2 fuel _ y hy ρ H hR hro⟩
            simp only [List.length_take, List.length_drop, Array.length_toList]; omega) ρ H hR hro
          rw [flat_take] at hg
          obtain ⟨ρ1, H1, l, r1, o1, g1, v1, n1, t1⟩ := hg
          have hlen := VRL_len v1
          have hll : l.length = cap * P.cellsOf e := by rw [hlen]; simp; omega
          have hcr : CR ρ1 l bs a.off := fun i v ev => by
            obtain ⟨cv, h1, h2⟩ := VRL_get v1 i v ev
            have hi : i < cap * P.cellsOf e := by have := (List.getElem?_eq_some_iff.1 ev).1; omega
            rw [List.getElem?_take_of_lt hi, List.getElem?_drop, Array.getElem?_toList] at h1
            exact ⟨cv, h1, h2⟩
          obtain ⟨r2, e2⟩ := r1.arg hw hcr n1 fun n b k o s hn hm _ => by rw [o1 n b hn] at hm; cases hm
          have hgr : ∀ n b, H1.get n = some b → (H1.alloc (.cells l false)).get n = some b := fun n b hn => by
            rw [AH.get_alloc]
            split
            · rename_i e; subst e
              rw [r1.none_get (Nat.le_refl _)] at hn; cases hn
            · exact hn
          refine ⟨_, _, [.sl (some (H1.next, 0)) len cap 0], r2, fun n b hn => ?_, g1.trans ⟨e2, hgr⟩, VRL_cons ?_ VRL_nil, by simp [AV.one], .inr (.inr ⟨H1.next, len, cap, l, rfl, hlc, hcap, hcm, ?_, hll, fun i hi => ?_⟩)⟩
          · rw [AH.get_alloc] at hn
            split at hn
            · cases hn; rfl
            · exact o1 n b hn
          · simp only [VR]
            refine ⟨a, cap, rfl, hlc, .inl ⟨a.block, a.off, bs.size, Rho.upd_same, ?_, fun _ => rfl, fun h => absurd rfl h⟩⟩
            obtain ⟨ab, ao, asp⟩ := a
            simp only at hs; subst hs; rfl
          · rw [AH.get_alloc, if_pos rfl]
          · exact Typed.mono hgr k _ _ (t1 i (by simpa using hi))
    · rename_i fs hu
      simp only [Bool.and_eq_true] at hf
      simp only [Typed, hu]
      obtain ⟨hlen, hfs⟩ := trod_struct hu h
      have := (fields_got (P := P) (B := B) (w0 := w0) (W := W) (k := k) hlen fs.toList 0 hf.1 fun f hff ρ H hR hro => by
        obtain ⟨y, hy⟩ := hfs f hff
        exact trod_got k f.type (List.all_eq_true.1 hf.2 f hff) fuel _ y hy ρ H hR hro).2 ρ H hR hro
      rw [List.drop_zero] at this
      exact this.mono fun H l hl hh => ⟨by rw [hl, hlen], fun f hff => by have := (hh f hff).2; rwa [Nat.sub_zero] at this⟩
    · rename_i n e hu
      simp only [Bool.and_eq_true, beq_iff_eq] at hf
      simp only [Typed, hu]
      obtain ⟨hlen, hel⟩ := trod_array hu h
      have hg := elems_got (P := P) (B := B) (w0 := w0) (W := W) (z := P.cellsOf e) (T := fun H l => Typed P H k e l) (fun _ _ _ hg hh => Typed.mono hg k _ _ hh) ((List.range n).map fun i => (cs.drop (i * P.cellsOf e)).take (P.cellsOf e)) (fun c hc => by
        obtain ⟨i, hi, rfl⟩ := List.mem_map.1 hc
        have hi' := List.mem_range.1 hi
        obtain ⟨y, hy⟩ := hel i hi'
        refine ⟨?_, fun ρ H hR hro => trod_got k e hf.2 fuel _ y hy ρ H hR hro⟩
        have : (i + 1) * P.cellsOf e ≤ n * P.cellsOf e := Nat.mul_le_mul_right _ hi'
        rw [Nat.succ_mul] at this
        simp only [List.length_take, List.length_drop]; rw [hlen, hf.1]; omega) ρ H hR hro
      rw [flat_take, List.take_of_length_le (by omega)] at hg
      exact hg.mono fun H l hl hh => ⟨by rw [hl, hlen], fun i hi => hh i (by simpa using hi)⟩
    · cases hf
end
end Go.Proofs.Ytjheedfobmlalaa.E
