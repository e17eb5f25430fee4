/- From the evaluator's word to a contract of the machine's. It bears no condition. -/
import Derived.Test.YtjheedfobmlalaaE19
namespace Go.Proofs.Ytjheedfobmlalaa.E
open Go.RowKit (Below)
set_option linter.unusedVariables false
set_option linter.unusedSimpArgs false

section
variable {P : Program} {B : Nat} {w0 w : World} {ρ : Rho} {H : AH} {tab : Nat → Option XFun} {sp : Nat → List AV → AH → Option (AV × AH)}

def noSp : Nat → List AV → AH → Option (AV × AH) := fun _ _ _ => none
theorem noSp_ok : SpOK P tab noSp := fun g args H v H' _ h => by simp [noSp] at h

/-- The empty heap. -/
def e0 : AH := ⟨[], 0⟩
def ρ0 : Rho := fun _ => none
theorem Rel.start (hg : P.globals.size = 0) (W : World) : Rel P W.heap.size W ρ0 e0 W :=
  ⟨Nat.le_refl _, Below.refl _ _, fun _ _ => rfl, fun g h => by omega, fun n b h => by simp [AH.get, e0, AH.getL] at h, fun n k o s h => by simp [ρ0] at h, fun n b m c k o s k' o' s' h => by simp [AH.get, e0, AH.getL] at h⟩

/-- A block of an argument's: read, never written. -/
theorem Rel.arg {W : World} {B : Nat} {w0 : World} (hR : Rel P B w0 ρ H W) {r : Nat} {cs : Array Value} {t : TypeId} {fr : Nat × Nat} (hw : W.heap[r]? = some (.cells cs t fr)) {o : Nat} {c : List AV} (hc : CR ρ c cs o) (ho : ∀ x ∈ c, AV.one x = true) (hfree : ∀ n b k o s, H.get n = some b → b.mutable = true → ρ n = some (k, o, s) → k ≠ r) :
    Rel P B w0 (ρ.upd H.next (r, o, cs.size)) (H.alloc (.cells c false)) W ∧ Ext ρ (ρ.upd H.next (r, o, cs.size)) := by
  have hn : ρ H.next = none := hR.dom _ (Nat.le_refl _)
  have he : Ext ρ (ρ.upd H.next (r, o, cs.size)) := Rho.upd_ext hn
  have hlt : r < W.heap.size := (Array.getElem?_eq_some_iff.1 hw).1
  refine ⟨⟨hR.hB, hR.below, ?_, ?_, ?_, ?_, ?_⟩, he⟩
  · intro n h
    simp only [AH.next_alloc] at h
    unfold Rho.upd
    rw [if_neg (by omega)]
    exact hR.dom n (by omega)
  · intro g hg
    obtain ⟨s', e⟩ := hR.glob g hg
    exact ⟨s', he _ _ e⟩
  · intro n b' h
    rw [AH.get_alloc] at h
    split at h
    · rename_i e; subst e
      simp only [Option.some.injEq] at h; subst h
      exact ⟨r, o, cs.size, cs, t, fr, Rho.upd_same, hw, rfl, CR_mono he hc, ho, fun h => by cases h⟩
    · exact (hR.blk n b' h).keep he fun k o' s' e => rfl
  · intro n k o' s' h
    unfold Rho.upd at h
    split at h
    · simp only [Option.some.injEq, Prod.mk.injEq] at h; omega
    · exact hR.lt _ _ _ _ h
  · intro n b1 m b2 k o1 s1 k' o2 s2 h1 h2 hne hm e1 e2
    rw [AH.get_alloc] at h1 h2
    unfold Rho.upd at e1 e2
    by_cases c1 : H.next = n
    · rw [if_pos c1] at h1
      simp only [Option.some.injEq] at h1; subst h1
      cases hm
    · rw [if_neg c1] at h1
      rw [if_neg (fun h => c1 h.symm)] at e1
      by_cases c2 : H.next = m
      · rw [if_pos c2.symm] at e2
        simp only [Option.some.injEq, Prod.mk.injEq] at e2
        obtain ⟨rfl, _, _⟩ := e2
        exact hfree n b1 k o1 s1 h1 hm e1
      · rw [if_neg c2] at h2
        rw [if_neg (fun h => c2 h.symm)] at e2
        exact hR.mu n b1 m b2 k o1 s1 k' o2 s2 h1 h2 hne hm e1 e2

/-- A law that the evaluator finds true. -/
theorem law_of (hm : P.follows .mixedOrders = true) (htab : TabOK P tab) (hsp : SpOK P tab sp) {k f : Nat} {args : List AV} {H0 H' : AH} (h : exec tab sp k (.fn (.func f) [] []) args H0 = some (.b true, H')) {W : World}
    (hR : Rel P W.heap.size W ρ H0 W) {as : Array Value} (ha : VRL ρ args as.toList) : Calls P f as W fun e w' => e = .returned (.bool true) ∧ Below W.heap.size W w' := by
  rcases exec_ok hm htab hsp k _ _ _ _ _ h _ _ _ W (.func (.func f) #[] #[]) as hR (by simp only [VR, FR]; exact ⟨_, #[], #[], rfl, rfl, VRL_nil, VRL_nil⟩) ha with ⟨g, first, cap, fn, hfv, _, _, _, hc⟩ | ⟨l, f, t, a, b, hfv, _⟩
  · simp only [Value.func.injEq, Fn.func.injEq] at hfv
    obtain ⟨rfl, rfl, rfl⟩ := hfv
    have := callsIn_wide.1 (hc 0)
    simp only [Array.empty_append, Array.append_empty] at this
    refine this.mono ?_
    rintro e w' ⟨cv, ρ', rfl, hv, hR', _⟩
    exact ⟨by rw [VR_b hv], hR'.below⟩
  · simp at hfv

/-- To a later world, in which nothing old has turned. -/
theorem Rel.later {w' : World} (hR : Rel P B w0 ρ H w) (h : Below w.heap.size w w') : Rel P B w0 ρ H w' ∧ St ρ H w ρ H w' := by
  have hBw : B ≤ w.heap.size := Nat.le_trans hR.hB hR.below.size
  refine ⟨⟨hR.hB, hR.below.trans (h.mono hBw), hR.dom, hR.glob, fun n b e => (hR.blk n b e).keep (Ext.refl ρ) fun k o s e => h.block k (hR.lt _ _ _ _ e), fun n k o s e => Nat.lt_of_lt_of_le (hR.lt _ _ _ _ e) h.size, hR.mu⟩,
    Ext.refl ρ, h.size, Nat.le_refl _, fun b hb _ => h.block b hb, fun n b o s e _ => .inl e, fun _ h => h.2, fun _ _ h => h⟩

mutual
/-- Values that bear no name. -/
def flatV : AV → Bool
  | .b _ | .i _ _ | .s _ | .p none | .sl none _ _ _ | .m none | .nf => true
  | .fn (.func _) a b => flatVL a && flatVL b
  | .agg l | .tup l => flatVL l
  | _ => false
def flatVL : List AV → Bool
  | [] => true
  | x :: xs => flatV x && flatVL xs
end
mutual
theorem VR_flat {ρ ρ' : Rho} : ∀ {v : AV} {c : Value}, flatV v = true → VR ρ v c → VR ρ' v c
  | .b _, _, _, e => e
  | .i _ _, _, _, e => e
  | .s _, _, _, e => e
  | .p none, _, _, e => e
  | .p (some _), _, h, _ => by simp [flatV] at h
  | .sl none _ _ _, _, _, e => e
  | .sl (some _) _ _ _, _, h, _ => by simp [flatV] at h
  | .m none, _, _, e => e
  | .m (some _), _, h, _ => by simp [flatV] at h
  | .fn (.func g) a b, _, h, e => by
    simp only [VR, FR] at e ⊢; simp only [flatV, Bool.and_eq_true] at h
    obtain ⟨f, a, b, hv, hf, ha, hb⟩ := e
    exact ⟨f, a, b, hv, hf, VRL_flat h.1 ha, VRL_flat h.2 hb⟩
  | .fn (.yield _) _ _, _, h, _ => by simp [flatV] at h
  | .fn (.method _) _ _, _, h, _ => by simp [flatV] at h
  | .fn (.methodOf _ _) _ _, _, h, _ => by simp [flatV] at h
  | .fn (.via _ _ _ _) _ _, _, h, _ => by simp [flatV] at h
  | .nf, _, _, e => e
  | .agg _, _, h, e => by simp only [VR] at e ⊢; simp only [flatV] at h; obtain ⟨c, hv, e, o⟩ := e; exact ⟨c, hv, VRL_flat h e, o⟩
  | .tup _, _, h, e => by simp only [VR] at e ⊢; simp only [flatV] at h; obtain ⟨c, hv, e⟩ := e; exact ⟨c, hv, VRL_flat h e⟩
theorem VRL_flat {ρ ρ' : Rho} : ∀ {v : List AV} {c : List Value}, flatVL v = true → VRL ρ v c → VRL ρ' v c
  | [], _, _, e => by simp only [VRL] at e ⊢; exact e
  | _ :: _, _, h, e => by
    simp only [VRL] at e ⊢; simp only [flatVL, Bool.and_eq_true] at h
    obtain ⟨y, ys, hv, hy, hs⟩ := e; exact ⟨y, ys, hv, VR_flat h.1 hy, VRL_flat h.2 hs⟩
end

/-- Does the evaluator say 'true'? -/
def told (r : Option (AV × AH)) : Bool := match r with | some (.b true, _) => true | _ => false
end
end Go.Proofs.Ytjheedfobmlalaa.E
