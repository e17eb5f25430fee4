/- Functions that go through a map: from the evaluator's states to the call. It bears no condition. -/
import Derived.Test.YtjheedfobmlalaaE48
import Derived.Test.YtjheedfobmlalaaE46
namespace Go.Proofs.Ytjheedfobmlalaa.E
open Go.RowKit (Below)
set_option linter.unusedVariables false
set_option linter.unusedSimpArgs false
section
variable {P : Program} {B : Nat} {w0 w : World} {ρ : Rho} {H : AH}
/-- A slice that a function has made, under a name of its own; all else that it has made is forgotten. -/
theorem Rel.res {ρ0 : Rho} {H0 : AH} {w1 : World} {q off len cap g sz C : Nat} {c0 l : List AV} (hR : Rel P B w0 ρ H w) (hS : St ρ0 H0 w1 ρ H w) (h0 : ∀ n, H0.next ≤ n → ρ0 n = none) (hok : H0.Ok) (hkeep : ∀ n b, H0.get n = some b → H.get n = some b) (hq : H0.next ≤ q) (hC : H.next ≤ C)
    (hg : H.get q = some (.cells c0 true)) (ht : takeAt c0 off (len * sz) = some l) (hcap : off + cap * sz ≤ c0.length) (hgg : g = 0 ∨ g = sz) (hlen : 0 < len) (hsz : 0 < sz) :
    ∃ ρ2, Rel P B w0 ρ2 ⟨(C, some (.cells l true)) :: H0.bl, C + 1⟩ w ∧ St ρ0 H0 w1 ρ2 ⟨(C, some (.cells l true)) :: H0.bl, C + 1⟩ w ∧ ∀ cv, VR ρ (.sl (some (q, off)) len cap g) cv → VR ρ2 (.sl (some (C, 0)) len len sz) cv := by
  obtain ⟨k, o, s, cs, t, fr, e, hw, hz, hc, ho, hm⟩ := hR.blk _ _ hg
  have hno : ρ C = none := hR.dom _ hC
  have hE : Ext ρ (ρ.upd C (k, o + off, s)) := Rho.upd_ext hno
  have get3 : ∀ n, AH.get ⟨(C, some (.cells l true)) :: H0.bl, C + 1⟩ n = if C = n then some (.cells l true) else H0.get n := fun n => rfl
  have hlt : ∀ n b, H0.get n = some b → n ≠ q := fun n b hb e => by have := hok n b hb; omega
  have hl : l = (c0.drop off).take (len * sz) := by
    unfold takeAt at ht
    split at ht
    · simpa using ht.symm
    · cases ht
  have hCR : CR ρ l cs (o + off) := fun i v hi => by
    have : c0[off + i]? = some v := by
      rw [hl, List.getElem?_take] at hi
      split at hi
      · rw [List.getElem?_drop] at hi; exact hi
      · cases hi
    obtain ⟨cv, h1, h2⟩ := hc (off + i) v this
    exact ⟨cv, by rw [Nat.add_assoc]; exact h1, h2⟩
  refine ⟨ρ.upd C (k, o + off, s), ⟨hR.hB, hR.below, fun m hm' => ?_, fun gg hgl => ?_, fun m b hb => ?_, fun m k' o' s' e' => ?_, fun m1 b1 m2 b2 k1 o1 s1 k2 o2 s2 h1 h2 hne hmu e1 e2 => ?_⟩, ⟨hS.ext.trans hE, hS.size, by have := hS.next; simp only; omega, hS.same, fun m b o' s' e' hb => ?_, fun m hm' => ?_, fun m hm' e' => ?_⟩, fun cv hv => ?_⟩
  · simp only at hm'; unfold Rho.upd; rw [if_neg (by omega)]; exact hR.dom m (by omega)
  · obtain ⟨s', e'⟩ := hR.glob gg hgl
    exact ⟨s', hE _ _ e'⟩
  · rw [get3] at hb
    split at hb
    · rename_i he; subst he; cases hb
      refine ⟨k, o + off, s, cs, t, fr, Rho.upd_same, hw, hz, CR_mono hE hCR, fun x hx => ho x ?_, hm⟩
      rw [hl] at hx
      exact List.mem_of_mem_drop (List.mem_of_mem_take hx)
    · exact (hR.blk m b (hkeep m b hb)).keep hE fun _ _ _ _ => rfl
  · unfold Rho.upd at e'
    split at e'
    · cases e'; exact hR.lt _ _ _ _ e
    · exact hR.lt _ _ _ _ e'
  · rw [get3] at h1 h2
    unfold Rho.upd at e1 e2
    by_cases c1 : C = m1
    · subst c1
      rw [if_pos rfl] at e1 h1; cases e1; cases h1
      rw [if_neg (Ne.symm hne)] at e2
      rw [if_neg hne] at h2
      exact hR.mu q _ m2 b2 _ _ _ _ _ _ hg (hkeep _ _ h2) (Ne.symm (hlt _ _ h2)) hmu e e2
    · rw [if_neg (Ne.symm c1)] at e1
      rw [if_neg c1] at h1
      by_cases c2 : C = m2
      · subst c2
        rw [if_pos rfl] at e2 h2; cases e2; cases h2
        exact hR.mu m1 b1 q _ _ _ _ _ _ _ (hkeep _ _ h1) hg (hlt _ _ h1) hmu e1 e
      · rw [if_neg (Ne.symm c2)] at e2
        rw [if_neg c2] at h2
        exact hR.mu m1 b1 m2 b2 _ _ _ _ _ _ (hkeep _ _ h1) (hkeep _ _ h2) hne hmu e1 e2
  · unfold Rho.upd at e'
    split at e'
    · cases e'
      rcases hS.new q _ _ _ e hb with e2 | e2
      · rw [h0 q hq] at e2; cases e2
      · exact .inr e2
    · exact hS.new m b o' s' e' hb
  · rw [get3, if_neg (by have := hm'.1; have := hS.next; omega)]; exact hm'.2
  · unfold Rho.upd; rw [if_neg (by have := hS.next; omega)]; exact hS.fresh m hm' e'
  · simp only [VR] at hv ⊢
    obtain ⟨x, c, rfl, hcl, hx⟩ := hv
    have hss : o + c0.length ≤ s := by
      have hpos : 0 < len * sz := Nat.mul_pos hlen hsz
      have hne : off + (cap * sz) ≤ c0.length := hcap
      have h3 : len * sz ≤ cap * sz := Nat.mul_le_mul_right _ hcl
      obtain ⟨cv, h4, _⟩ := hc (c0.length - 1) (c0[c0.length - 1]'(by omega)) (List.getElem?_eq_getElem (by omega))
      have := (Array.getElem?_eq_some_iff.1 h4).1
      omega
    rcases hx with ⟨k', o', s', e', rfl, h1, h2⟩ | ⟨h1, _⟩
    · rw [e] at e'; cases e'
      refine ⟨_, c, rfl, Nat.le_refl _, .inl ⟨k, o + off, s, Rho.upd_same, by simp, fun h => by omega, fun _ => ?_⟩⟩
      rcases hgg with rfl | rfl
      · have := h1 rfl; subst this
        exact ⟨hcl, by omega⟩
      · obtain ⟨h3, h4⟩ := h2 (by omega)
        exact ⟨Nat.le_trans hcl h3, by omega⟩
    · omega
/-- All that a function has made is forgotten. -/
theorem Rel.none {ρ0 : Rho} {H0 H3 : AH} {w1 : World} (hR : Rel P B w0 ρ H w) (hS : St ρ0 H0 w1 ρ H w) (hkeep : ∀ n b, H3.get n = some b → H.get n = some b) (hn : H.next ≤ H3.next) (hu : ∀ n, H0.Un n → H3.get n = .none) : Rel P B w0 ρ H3 w ∧ St ρ0 H0 w1 ρ H3 w :=
  ⟨hR.forget hkeep hn, hS.forget hu (Nat.le_trans hS.next hn)⟩

/-- A call, from its body's ends. -/
theorem spk_of {g : Nat} {fn : Func} {c : Code} {args : List AV} {H3 : AH} {v : AV} {xs : List XRes} {PF : Tm → AH → Prop} (hfn : P.funcs[g]? = some fn) (hc : fn.body = some c) (hname : (fn.name == "runtime.NumGoroutine") = false) (hres : cResL P fn.results.toList = some xs)
    (h : ∀ B w0 ρ w (as : Array Value) (n : Nat), Rel P B w0 ρ H w → VRL ρ args as.toList → ∀ Q : Exit → Act → World → Prop, (∀ e T' H' ρ' w' tmps' ds', (e = Exit.normal ∨ e = .ret) → PF T' H' → Rel P B w0 ρ' H' w' → TR ρ' fn.ntmps T' tmps' → MK w.heap.size ρ' w' ds' → St ρ H w ρ' H' w' → Q e ⟨tmps', ds'⟩ w') →
      c.wpIn Fence.wide n P Q { tmps := as ++ Array.replicate (fn.ntmps - as.size) undef, defers := [] } w)
    (hfin : ∀ T' H', PF T' H' → ∃ vs, resL T' H' xs = some vs ∧ ∀ B w0 ρ w ρ' w', Rel P B w0 ρ H w → Rel P B w0 ρ' H' w' → St ρ H w ρ' H' w' → ∃ ρ2, Rel P B w0 ρ2 H3 w' ∧ St ρ H w ρ2 H3 w' ∧ ∀ cv, VR ρ' (resV vs) cv → VR ρ2 v cv) : SPk P g args H v H3 := by
  intro B w0 ρ w as hR ha
  refine ⟨fn, hfn, by rw [hc]; rfl, hname, fun n => ?_⟩
  refine callsIn_of_wp_marks hfn hc trivial ?_
  refine h B w0 ρ w as n hR ha _ fun e T' H' ρ' w' tmps' ds' he hF k1 k2 k4 k3 => ?_
  obtain ⟨Ds, rfl, hnd, hD⟩ := k4
  have hBw : B ≤ w.heap.size := Nat.le_trans hR.hB hR.below.size
  obtain ⟨vs, hr, hf⟩ := hfin T' H' hF
  have hgo : LeavesInM Fence.wide n P fn tmps' (fun e w' => ∃ cv ρ', e = .returned cv ∧ VR ρ' v cv ∧ Rel P B w0 ρ' H3 w' ∧ St ρ H w ρ' H3 w') (Ds.map mark) .returning w' := by
    refine leaves_ok hBw Ds w' k1 k3 hnd hD fun w'' q1 q2 => ?_
    obtain ⟨c, hc, hv⟩ := results_ok q1 k2 hres hr
    obtain ⟨ρ2, f1, f2, f3⟩ := hf B w0 ρ w ρ' w'' hR q1 q2
    exact ⟨c, hc, c, ρ2, rfl, f3 _ hv, f1, f2⟩
  rcases he with rfl | rfl <;> exact hgo
end
/-! ### More functions that are told by facts do no harm -/
theorem exec_sp {tab : Nat → Option XFun} {sp sp' : Nat → List AV → AH → Option (AV × AH)} (h : ∀ g args H r, sp g args H = some r → sp' g args H = some r) : ∀ n, CLe (exec tab sp n) (exec tab sp' n)
  | 0, f, a, H, r, e => by simp [exec] at e
  | n + 1, f, a, H, r, e => by
    have ih := exec_sp (tab := tab) h n
    have ihc := fun x T H r e => execC_mono ih (Nat.le_refl n) x (T := T) (H := H) (r := r) e
    simp only [exec] at e ⊢
    split at e
    · split at e
      · rename_i F hF
        split at e
        · rename_i h1; simp only [ihc _ _ _ _ h1]; exact e
        · rename_i h1; simp only [ihc _ _ _ _ h1]; exact e
        · cases e
      · exact h _ _ _ _ e
    · split at e
      · split at e
        · rename_i hps
          split at e
          · rename_i h1
            simp only [if_pos hps, ihc _ _ _ _ h1]
            split at e
            · split at e
              · rename_i h2
                simp only [ihc _ _ _ _ h2]
                exact e
              · cases e
            · cases e
          · cases e
        · cases e
      · cases e
    · cases e
theorem Ev.sp {tab : Nat → Option XFun} {sp' : Nat → List AV → AH → Option (AV × AH)} {f : AV} {args : List AV} {H : AH} {Q : AV → AH → Prop} (h : Ev tab noSp f args H Q) : Ev tab sp' f args H Q := by
  obtain ⟨k, v, H', e, q⟩ := h
  exact ⟨k, v, H', exec_sp (fun g args H r h => by simp [noSp] at h) k _ _ _ _ e, q⟩
/-! ### All else that a heap holds -/
def restL (H : AH) (ns : List Nat) : HL := ((List.range H.next).filter fun n => !ns.contains n).map fun n => (n, H.get n)
theorem restL_hs {H : AH} {L : HL} (h : Hs H L) : Hs H (L ++ restL H (L.map Prod.fst)) := by
  refine ⟨?_, fun p hp => ?_, h.ok⟩
  · rw [List.map_append, List.nodup_append]
    have e : (restL H (L.map Prod.fst)).map Prod.fst = (List.range H.next).filter fun n => !(L.map Prod.fst).contains n := by simp [restL, List.map_map, Function.comp_def]
    rw [e]
    refine ⟨h.nd, List.nodup_range.filter _, fun x hx y hy e => ?_⟩
    rw [List.mem_filter] at hy
    subst e
    simp [List.contains_iff_mem] at hy
    obtain ⟨p, hp, rfl⟩ := List.mem_map.1 hx
    exact hy.2 _ (by exact hp)
  · rcases List.mem_append.1 hp with hp | hp
    · exact h.all p hp
    · obtain ⟨n, hn, rfl⟩ := List.mem_map.1 hp
      have := (List.mem_filter.1 hn).1
      exact ⟨rfl, by simpa using this⟩
theorem restL_get {H H' : AH} {L : HL} {ns : List Nat} (h : Hs H' (L ++ restL H ns)) {n : Nat} (hn : n < H.next) (hnn : n ∉ ns) : H'.get n = H.get n :=
  (h.all (n, H.get n) (List.mem_append.2 (.inr (List.mem_map.2 ⟨n, List.mem_filter.2 ⟨by simpa using hn, by simpa using hnn⟩, rfl⟩)))).1
end Go.Proofs.Ytjheedfobmlalaa.E
