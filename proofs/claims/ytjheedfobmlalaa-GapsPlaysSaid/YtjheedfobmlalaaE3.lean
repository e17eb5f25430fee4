/- How the evaluator's values and heaps stand for the machine's: definitions and plain facts. It bears no condition. -/
import Derived.Test.YtjheedfobmlalaaE2
import Derived.Below
namespace Go.Proofs.Ytjheedfobmlalaa.E
open Go.RowKit (Below)
set_option linter.unusedVariables false
set_option linter.unusedSimpArgs false

abbrev Rho := Nat → Option (Nat × Nat × Nat)

def FR (ρ : Rho) : Fn → Fn → Prop
  | .yield l, f => ∃ k o s, ρ l = some (k, o, s) ∧ f = .yield k
  | g, f => f = g

mutual
def VR (ρ : Rho) : AV → Value → Prop
  | .b x, v => v = .bool x
  | .i k n, v => v = .int k n
  | .s x, v => v = .string x
  | .p none, v => v = .pointer none
  | .p (some a), v => ∃ k o s, ρ a.1 = some (k, o, s) ∧ v = .pointer (some ⟨k, o + a.2, none⟩)
  | .sl none len cap _, v => len = 0 ∧ cap = 0 ∧ v = .slice none 0 0
  | .sl (some a) len cap g, v => ∃ x c, v = .slice (some x) len c ∧ len ≤ cap ∧
      ((∃ k o s, ρ a.1 = some (k, o, s) ∧ x = ⟨k, o + a.2, none⟩ ∧ (g = 0 → c = cap) ∧ (g ≠ 0 → cap ≤ c ∧ o + a.2 + c * g ≤ s)) ∨ (len = 0 ∧ cap = 0 ∧ c = 0))
  | .m none, v => v = .map none
  | .m (some r), v => ∃ k o s, ρ r = some (k, o, s) ∧ v = .map (some k)
  | .fn f first cap, v => ∃ f' a b, v = .func f' a b ∧ FR ρ f f' ∧ VRL ρ first a.toList ∧ VRL ρ cap b.toList
  | .nf, v => v = .nilFunc
  | .agg l, v => ∃ cs, v = .agg cs ∧ VRL ρ l cs.toList ∧ ∀ x ∈ l, AV.one x = true
  | .tup l, v => ∃ cs, v = .tuple cs ∧ VRL ρ l cs.toList
def VRL (ρ : Rho) : List AV → List Value → Prop
  | [], l => l = []
  | x :: xs, l => ∃ y ys, l = y :: ys ∧ VR ρ x y ∧ VRL ρ xs ys
end

def Ext (ρ ρ' : Rho) : Prop := ∀ n x, ρ n = some x → ρ' n = some x
theorem Ext.refl (ρ : Rho) : Ext ρ ρ := fun _ _ h => h
theorem Ext.trans {a b c : Rho} (h : Ext a b) (k : Ext b c) : Ext a c := fun n x e => k n x (h n x e)

theorem FR_mono {ρ ρ' : Rho} (h : Ext ρ ρ') : ∀ {f g : Fn}, FR ρ f g → FR ρ' f g
  | .yield _, _, ⟨k, o, s, e, r⟩ => ⟨k, o, s, h _ _ e, r⟩
  | .func _, _, e => e
  | .method _, _, e => e
  | .methodOf _ _, _, e => e
  | .via _ _ _ _, _, e => e

mutual
theorem VR_mono {ρ ρ' : Rho} (h : Ext ρ ρ') : ∀ {x : AV} {v : Value}, VR ρ x v → VR ρ' x v
  | .b _, _, e => e
  | .i _ _, _, e => e
  | .s _, _, e => e
  | .p none, _, e => e
  | .p (some _), _, e => by simp only [VR] at e ⊢; obtain ⟨k, o, s, e, r⟩ := e; exact ⟨k, o, s, h _ _ e, r⟩
  | .sl none _ _ _, _, e => e
  | .sl (some _) _ _ _, _, e => by
    simp only [VR] at e ⊢
    obtain ⟨x, c, hv, hs, e⟩ := e
    refine ⟨x, c, hv, hs, ?_⟩
    rcases e with ⟨k, o, s, e, r⟩ | e
    · exact .inl ⟨k, o, s, h _ _ e, r⟩
    · exact .inr e
  | .m none, _, e => e
  | .m (some _), _, e => by simp only [VR] at e ⊢; obtain ⟨k, o, s, e, r⟩ := e; exact ⟨k, o, s, h _ _ e, r⟩
  | .fn _ _ _, _, e => by simp only [VR] at e ⊢; obtain ⟨f, a, b, hv, hf, ha, hb⟩ := e; exact ⟨f, a, b, hv, FR_mono h hf, VRL_mono h ha, VRL_mono h hb⟩
  | .nf, _, e => e
  | .agg _, _, e => by simp only [VR] at e ⊢; obtain ⟨c, hv, e, o⟩ := e; exact ⟨c, hv, VRL_mono h e, o⟩
  | .tup _, _, e => by simp only [VR] at e ⊢; obtain ⟨c, hv, e⟩ := e; exact ⟨c, hv, VRL_mono h e⟩
theorem VRL_mono {ρ ρ' : Rho} (h : Ext ρ ρ') : ∀ {x : List AV} {v : List Value}, VRL ρ x v → VRL ρ' x v
  | [], _, e => e
  | _ :: _, _, e => by simp only [VRL] at e ⊢; obtain ⟨y, ys, hv, hy, hs⟩ := e; exact ⟨y, ys, hv, VR_mono h hy, VRL_mono h hs⟩
end

section VRL
variable {ρ : Rho}
theorem VRL_nil : VRL ρ [] [] := by simp [VRL]
theorem VRL_cons {x : AV} {y : Value} {xs : List AV} {ys : List Value} (h : VR ρ x y) (k : VRL ρ xs ys) : VRL ρ (x :: xs) (y :: ys) := by
  simp only [VRL]; exact ⟨y, ys, rfl, h, k⟩
theorem VRL_cons_iff {x : AV} {xs : List AV} {l : List Value} : VRL ρ (x :: xs) l ↔ ∃ y ys, l = y :: ys ∧ VR ρ x y ∧ VRL ρ xs ys := by simp only [VRL]
theorem VRL_nil_iff {l : List Value} : VRL ρ [] l ↔ l = [] := by simp only [VRL]
theorem VRL_len : ∀ {xs : List AV} {ys : List Value}, VRL ρ xs ys → xs.length = ys.length
  | [], _, h => by rw [VRL_nil_iff] at h; subst h; rfl
  | _ :: _, _, h => by rw [VRL_cons_iff] at h; obtain ⟨y, ys, rfl, _, h⟩ := h; simp [VRL_len h]
theorem VRL_get : ∀ {xs : List AV} {ys : List Value}, VRL ρ xs ys → ∀ (i : Nat) (v : AV), xs[i]? = some v → ∃ c, ys[i]? = some c ∧ VR ρ v c
  | [], _, h, i, v, e => by simp at e
  | x :: xs, _, h, i, v, e => by
    rw [VRL_cons_iff] at h; obtain ⟨y, ys, rfl, hy, h⟩ := h
    cases i with
    | zero => simp at e; subst e; exact ⟨y, rfl, hy⟩
    | succ i => simp at e; simpa using VRL_get h i v e
theorem VRL_append : ∀ {xs : List AV} {ys : List Value} {as : List AV} {bs : List Value}, VRL ρ xs ys → VRL ρ as bs → VRL ρ (xs ++ as) (ys ++ bs)
  | [], _, _, _, h, k => by rw [VRL_nil_iff] at h; subst h; simpa using k
  | _ :: _, _, _, _, h, k => by
    rw [VRL_cons_iff] at h; obtain ⟨y, ys, rfl, hy, h⟩ := h
    exact VRL_cons hy (VRL_append h k)
theorem VRL_take : ∀ {xs : List AV} {ys : List Value} (n : Nat), VRL ρ xs ys → VRL ρ (xs.take n) (ys.take n)
  | _, _, 0, h => by simpa using VRL_nil
  | [], _, n + 1, h => by rw [VRL_nil_iff] at h; subst h; simpa using VRL_nil
  | _ :: _, _, n + 1, h => by
    rw [VRL_cons_iff] at h; obtain ⟨y, ys, rfl, hy, h⟩ := h
    exact VRL_cons hy (VRL_take n h)
theorem VRL_drop : ∀ {xs : List AV} {ys : List Value} (n : Nat), VRL ρ xs ys → VRL ρ (xs.drop n) (ys.drop n)
  | _, _, 0, h => by simpa using h
  | [], _, n + 1, h => by rw [VRL_nil_iff] at h; subst h; simpa using VRL_nil
  | _ :: _, _, n + 1, h => by
    rw [VRL_cons_iff] at h; obtain ⟨y, ys, rfl, hy, h⟩ := h
    simpa using VRL_drop n h
theorem VRL_set : ∀ {xs : List AV} {ys : List Value} (i : Nat) {v : AV} {c : Value}, VRL ρ xs ys → VR ρ v c → VRL ρ (xs.set i v) (ys.set i c)
  | [], _, _, _, _, h, _ => by rw [VRL_nil_iff] at h; subst h; simpa using VRL_nil
  | _ :: _, _, 0, _, _, h, k => by
    rw [VRL_cons_iff] at h; obtain ⟨y, ys, rfl, hy, h⟩ := h
    exact VRL_cons k h
  | _ :: _, _, i + 1, _, _, h, k => by
    rw [VRL_cons_iff] at h; obtain ⟨y, ys, rfl, hy, h⟩ := h
    exact VRL_cons hy (VRL_set i h k)
theorem VRL_of_get : ∀ {xs : List AV} {ys : List Value}, xs.length = ys.length → (∀ (i : Nat) (v : AV), xs[i]? = some v → ∃ c, ys[i]? = some c ∧ VR ρ v c) → VRL ρ xs ys
  | [], [], _, _ => VRL_nil
  | [], _ :: _, h, _ => by simp at h
  | _ :: _, [], h, _ => by simp at h
  | x :: xs, y :: ys, h, k => by
    refine VRL_cons ?_ (VRL_of_get (by simpa using h) fun i v e => by simpa using k (i + 1) v (by simpa using e))
    obtain ⟨c, hc, hv⟩ := k 0 x rfl
    simp at hc; subst hc; exact hv
theorem VRL_map {α : Type} (f : α → AV) (g : α → Value) (h : ∀ x, VR ρ (f x) (g x)) : ∀ l : List α, VRL ρ (l.map f) (l.map g)
  | [] => VRL_nil
  | x :: l => VRL_cons (h x) (VRL_map f g h l)
end VRL

/-! ### Heaps -/
/-- A row of cells, from a place of a block's cells on. -/
def CR (ρ : Rho) (c : List AV) (cs : Array Value) (o : Nat) : Prop := ∀ (i : Nat) (v : AV), c[i]? = some v → ∃ cv, cs[o + i]? = some cv ∧ VR ρ v cv
theorem CR_mono {ρ ρ' : Rho} (h : Ext ρ ρ') {c : List AV} {cs : Array Value} {o : Nat} (k : CR ρ c cs o) : CR ρ' c cs o := fun i v e => by
  obtain ⟨cv, hc, hv⟩ := k i v e; exact ⟨cv, hc, VR_mono h hv⟩

/-- Temporaries. -/
def TR (ρ : Rho) (N : Nat) (T : Tm) (tmps : Array Value) : Prop := N ≤ tmps.size ∧ ∀ t, VR ρ (T.get t) (tmps.getD t undef)
theorem TR_mono {ρ ρ' : Rho} (h : Ext ρ ρ') {N : Nat} {T : Tm} {tmps : Array Value} (k : TR ρ N T tmps) : TR ρ' N T tmps := ⟨k.1, fun t => VR_mono h (k.2 t)⟩

def entR (ρ : Rho) : List (AV × AV × Nat) → List MapEntry → Prop
  | [], l => l = []
  | x :: xs, l => ∃ y ys, l = y :: ys ∧ VR ρ x.1 y.key ∧ VR ρ x.2.1 y.val ∧ x.2.2 = y.born ∧ entR ρ xs ys
theorem entR_mono {ρ ρ' : Rho} (h : Ext ρ ρ') : ∀ {x : List (AV × AV × Nat)} {l : List MapEntry}, entR ρ x l → entR ρ' x l
  | [], _, e => e
  | _ :: _, _, e => by
    simp only [entR] at e ⊢
    obtain ⟨y, ys, hl, hk, hv, hb, e⟩ := e
    exact ⟨y, ys, hl, VR_mono h hk, VR_mono h hv, hb, entR_mono h e⟩

def xcode : XExit → Option Code
  | .norm => none
  | .ret => some .ret
  | .exit id => some (.exit id)

def Blk.mutable : Blk → Bool
  | .cells _ mu => mu
  | _ => true

def BR (P : Program) (B : Nat) (ρ : Rho) (w : World) (n : Nat) : Blk → Prop
  | .cells c mu => ∃ k o s cs t fr, ρ n = some (k, o, s) ∧ w.heap[k]? = some (.cells cs t fr) ∧ cs.size = s ∧ CR ρ c cs o ∧ (∀ x ∈ c, AV.one x = true) ∧ (mu = true → B ≤ k ∧ fr = (0, 0))
  | .map es clock => ∃ k o s es', ρ n = some (k, o, s) ∧ w.heap[k]? = some (.map es' clock) ∧ B ≤ k ∧ entR ρ es es'.toList
  | .loop st pend ps asg body T => ∃ k o s r N, ρ n = some (k, o, s) ∧ w.heap[k]? = some (.loop r) ∧ B ≤ k ∧ r.state = st ∧ r.pending = pend.bind xcode ∧ r.params.toList = ps ∧ (∀ p ∈ ps, p < N) ∧
      comp P N r.assign = some asg ∧ comp P N r.body = some body ∧ (asg.flat && body.flat) = true ∧ TR ρ N T r.tmps

structure Rel (P : Program) (B : Nat) (w0 : World) (ρ : Rho) (H : AH) (w : World) : Prop where
  hB : B ≤ w0.heap.size
  below : Below B w0 w
  dom : ∀ n, H.next ≤ n → ρ n = none
  glob : ∀ g, g < P.globals.size → ∃ s, ρ g = some (g, 0, s)
  blk : ∀ n b, H.get n = some b → BR P B ρ w n b
  lt : ∀ n k o s, ρ n = some (k, o, s) → k < w.heap.size
  mu : ∀ n b m c k o s k' o' s', H.get n = some b → H.get m = some c → n ≠ m → b.mutable = true → ρ n = some (k, o, s) → ρ m = some (k', o', s') → k ≠ k'

/-- A name that is set aside, or dropped: the heap tells nothing of its block. -/
def AH.Un (H : AH) (n : Nat) : Prop := n < H.next ∧ H.get n = none
/-- From one world to a later one: names stay; a block of which the heap tells nothing lies as it lay. -/
structure St (ρ : Rho) (H : AH) (w : World) (ρ' : Rho) (H' : AH) (w' : World) : Prop where
  ext : Ext ρ ρ'
  size : w.heap.size ≤ w'.heap.size
  next : H.next ≤ H'.next
  same : ∀ b, b < w.heap.size → (∀ n o s, ρ n = some (b, o, s) → H.Un n) → w'.heap[b]? = w.heap[b]?
  new : ∀ n b o s, ρ' n = some (b, o, s) → b < w.heap.size → ρ n = some (b, o, s) ∨ ∃ m o' s', ρ m = some (b, o', s') ∧ ¬ H.Un m
  gone : ∀ n, H.Un n → H'.get n = none
  fresh : ∀ n, n < H.next → ρ n = none → ρ' n = none

theorem St.un {ρ ρ' : Rho} {H H' : AH} {w w' : World} (h : St ρ H w ρ' H' w') {n : Nat} (k : H.Un n) : H'.Un n := ⟨Nat.lt_of_lt_of_le k.1 h.next, h.gone n k⟩
theorem St.refl (ρ : Rho) (H : AH) (w : World) : St ρ H w ρ H w := ⟨Ext.refl ρ, Nat.le_refl _, Nat.le_refl _, fun _ _ _ => rfl, fun n b o s h _ => .inl h, fun _ h => h.2, fun _ _ h => h⟩
theorem St.trans {a b c : Rho} {H I J : AH} {u v w : World} (h : St a H u b I v) (k : St b I v c J w) : St a H u c J w := by
  refine ⟨h.ext.trans k.ext, Nat.le_trans h.size k.size, Nat.le_trans h.next k.next, fun i hi hn => ?_, fun n i o s e hi => ?_, fun n hn => k.gone n (h.un hn), fun n hn e => k.fresh n (Nat.lt_of_lt_of_le hn h.next) (h.fresh n hn e)⟩
  · rw [k.same i (Nat.lt_of_lt_of_le hi h.size), h.same i hi hn]
    intro n o s e
    rcases h.new n i o s e hi with e | ⟨m, o', s', e', hm⟩
    · exact h.un (hn n o s e)
    · exact absurd (hn m o' s' e') hm
  · rcases k.new n i o s e (Nat.lt_of_lt_of_le hi h.size) with e | ⟨m, o', s', e', hm⟩
    · exact h.new n i o s e hi
    · rcases h.new m i o' s' e' hi with e | h2
      · exact .inr ⟨m, o', s', e, fun hu => hm (h.un hu)⟩
      · exact .inr h2

/-- A draw. -/
theorem Rel.drew {P : Program} {B : Nat} {w0 w : World} {ρ : Rho} {H : AH} (h : Rel P B w0 ρ H w) (d : Nat) : Rel P B w0 ρ H { w with drawn := d } :=
  ⟨h.hB, ⟨h.below.os, h.below.tape, h.below.output, h.below.size, h.below.block⟩, h.dom, h.glob, fun n b e => by have := h.blk n b e; cases b <;> exact this, h.lt, h.mu⟩
theorem St.drew (ρ : Rho) (H : AH) (w : World) (d : Nat) : St ρ H w ρ H { w with drawn := d } := ⟨Ext.refl ρ, Nat.le_refl _, Nat.le_refl _, fun _ _ _ => rfl, fun n b o s h _ => .inl h, fun _ h => h.2, fun _ _ h => h⟩

/-! ### The evaluator's lists -/
theorem Tm.get_set (T : Tm) (a : Nat) (v : AV) (b : Nat) : (T.set a v).get b = if a = b then v else T.get b := by
  induction T with
  | nil => simp [Tm.set, Tm.get]
  | cons x r ih =>
    obtain ⟨c, u⟩ := x
    simp only [Tm.set]
    by_cases h : c = a
    · subst h; simp only [if_true, Tm.get]; split <;> rfl
    · simp only [if_neg h, Tm.get, ih]
      by_cases hb : c = b
      · subst hb; simp [Ne.symm h]
      · simp [hb]
theorem AH.getL_setL (l : List (Nat × Option Blk)) (a : Nat) (v : Option Blk) (b : Nat) : AH.getL (AH.setL l a v) b = if a = b then v else AH.getL l b := by
  induction l with
  | nil => simp [AH.setL, AH.getL]
  | cons x r ih =>
    obtain ⟨c, u⟩ := x
    simp only [AH.setL]
    by_cases h : c = a
    · subst h; simp only [if_true, AH.getL]; split <;> rfl
    · simp only [if_neg h, AH.getL, ih]
      by_cases hb : c = b
      · subst hb; simp [Ne.symm h]
      · simp [hb]
theorem AH.get_set (H : AH) (n : Nat) (b : Blk) (m : Nat) : (H.set n b).get m = if n = m then some b else H.get m := AH.getL_setL _ _ _ _
theorem AH.get_drop (H : AH) (n : Nat) (m : Nat) : (H.drop n).get m = if n = m then none else H.get m := AH.getL_setL _ _ _ _
theorem AH.get_alloc (H : AH) (b : Blk) (m : Nat) : (H.alloc b).get m = if H.next = m then some b else H.get m := rfl
theorem AH.next_drop (H : AH) (n : Nat) : (H.drop n).next = H.next := rfl
theorem AH.next_alloc (H : AH) (b : Blk) : (H.alloc b).next = H.next + 1 := rfl

theorem St.drop {ρ ρ' : Rho} {H H' : AH} {w w' : World} (h : St ρ H w ρ' H' w') (n : Nat) : St ρ H w ρ' (H'.drop n) w' :=
  ⟨h.ext, h.size, h.next, h.same, h.new, fun m h1 => by rw [AH.get_drop, h.gone m h1]; split <;> rfl, h.fresh⟩
theorem TR.put {ρ : Rho} {N : Nat} {T : Tm} {tmps : Array Value} (h : TR ρ N T tmps) {d : Option Nat} (hd : d.all (· < N) = true) {v : AV} {c : Value} (hv : VR ρ v c) (ds : List Deferred) :
    TR ρ N (T.put d v) (Act.put ⟨tmps, ds⟩ d c).tmps := by
  cases d with
  | none => exact h
  | some d =>
    simp at hd
    refine ⟨by simpa [Act.put] using h.1, fun t => ?_⟩
    simp only [Tm.put, Act.put, Tm.get_set]
    by_cases e : d = t
    · subst e
      rw [if_pos rfl]
      have : d < tmps.size := Nat.lt_of_lt_of_le hd h.1
      simpa [Array.getD, this] using hv
    · rw [if_neg e]
      have := h.2 t
      simpa [Array.getD_eq_getD_getElem?, Array.getElem?_setIfInBounds_ne e] using this

theorem VR_und {ρ : Rho} : VR ρ und undef := by
  show VR ρ (.tup []) (.tuple #[])
  simp only [VR]; exact ⟨#[], rfl, VRL_nil⟩
end Go.Proofs.Ytjheedfobmlalaa.E
