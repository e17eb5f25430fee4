/- Control: in the evaluator and on the machine. It bears no condition. -/
import Derived.Test.YtjheedfobmlalaaE17
import Derived.LoopNIn
import Derived.RangeFuncRecord
namespace Go.Proofs.Ytjheedfobmlalaa.E
open Go.RowKit (Below)
set_option linter.unusedVariables false
set_option linter.unusedSimpArgs false

theorem tl_none : ∀ (os : List XOper) (vs : Nat → AV) (L : Nat → Bool), (∀ i, L i = false) → ∀ T, tl os vs L T = T
  | [], _, _, _, _ => rfl
  | o :: r, vs, L, h, T => by
    simp only [tl, h, Bool.false_eq_true, if_false]
    exact tl_none r _ L h T

def toX : XExit → Exit
  | .norm => .normal
  | .ret => .ret
  | .exit id => .exit id

def mark (D : Nat) : Deferred := { target := .collected D, args := #[] }
/-- The activation's deferred calls: marks of blocks that hold none, and bear no name. -/
def MK (b0 : Nat) (ρ : Rho) (w : World) (ds : List Deferred) : Prop :=
  ∃ Ds : List Nat, ds = Ds.map mark ∧ Ds.Nodup ∧ ∀ D ∈ Ds, b0 ≤ D ∧ w.heap[D]? = some (.deferred (some [])) ∧ ∀ n o s, ρ n ≠ some (D, o, s)

theorem MK.nil (b0 : Nat) (ρ : Rho) (w : World) : MK b0 ρ w [] := ⟨[], rfl, List.nodup_nil, by simp⟩
theorem MK.step {b0 : Nat} {ρ ρ' : Rho} {w w' : World} {ds : List Deferred} (h : MK b0 ρ w ds) {H H' : AH} (k : St ρ H w ρ' H' w') : MK b0 ρ' w' ds := by
  obtain ⟨Ds, rfl, hn, h⟩ := h
  refine ⟨Ds, rfl, hn, fun D hD => ?_⟩
  obtain ⟨h1, h2, h3⟩ := h D hD
  have hlt : D < w.heap.size := (Array.getElem?_eq_some_iff.1 h2).1
  refine ⟨h1, by rw [k.same D hlt fun n o s e => absurd e (h3 n o s)]; exact h2, fun n o s e => ?_⟩
  rcases k.new n D o s e hlt with e' | ⟨m, o', s', e', _⟩
  · exact h3 n o s e'
  · exact h3 m o' s' e'

section
variable {P : Program} {B : Nat} {w0 w : World} {ρ : Rho} {H : AH}
/-- One block more, that has no name. -/
theorem Rel.push (hR : Rel P B w0 ρ H w) (o : Obj) : Rel P B w0 ρ H (w.alloc o) ∧ St ρ H w ρ H (w.alloc o) := by
  have hold : ∀ k, k < w.heap.size → (w.alloc o).heap[k]? = w.heap[k]? := fun k hk => by
    show (w.heap.push o)[k]? = _
    rw [Array.getElem?_push_lt hk, Array.getElem?_eq_getElem hk]
  have hBw : B ≤ w.heap.size := Nat.le_trans hR.hB hR.below.size
  have hsz : w.heap.size ≤ (w.alloc o).heap.size := by show _ ≤ (w.heap.push o).size; simp
  refine ⟨⟨hR.hB, ?_, hR.dom, hR.glob, fun n b h => (hR.blk n b h).keep (Ext.refl ρ) fun k o' s e => hold k (hR.lt _ _ _ _ e), fun n k o' s e => Nat.lt_of_lt_of_le (hR.lt _ _ _ _ e) hsz, hR.mu⟩, Ext.refl ρ, hsz, Nat.le_refl _, fun b hb _ => hold b hb, fun n b o s h _ => .inl h, fun _ h => h.2, fun _ _ h => h⟩
  exact hR.below.trans ⟨rfl, rfl, rfl, hsz, fun k hk => hold k (by omega)⟩

/-- A block that has no name turns. -/
theorem Rel.foreign (hR : Rel P B w0 ρ H w) {k : Nat} (hk : B ≤ k) (hn : ∀ n o s, ρ n ≠ some (k, o, s)) (x : Obj) : Rel P B w0 ρ H (World.put w k x) := by
  refine ⟨hR.hB, ?_, hR.dom, hR.glob, fun n b h => (hR.blk n b h).keep (Ext.refl ρ) fun k' o' s e => put_other fun he => hn n o' s (he ▸ e), fun n k o' s e => by rw [put_size]; exact hR.lt _ _ _ _ e, hR.mu⟩
  exact hR.below.trans ⟨rfl, rfl, rfl, by rw [put_size]; exact Nat.le_refl _, fun j hj => put_other (by omega)⟩
theorem St.foreign {ρ0 : Rho} {He : AH} {we : World} (h : St ρ0 He we ρ H w) {k : Nat} (hk : we.heap.size ≤ k) (x : Obj) : St ρ0 He we ρ H (World.put w k x) :=
  ⟨h.ext, by rw [put_size]; exact h.size, h.next, fun b hb hn => by rw [put_other (by omega)]; exact h.same b hb hn, h.new, h.gone, h.fresh⟩

theorem Rel.none_get (hR : Rel P B w0 ρ H w) {n : Nat} (h : H.next ≤ n) : H.get n = none := by
  cases hg : H.get n with
  | none => rfl
  | some b =>
    obtain ⟨k, o, s, e⟩ := (hR.blk n b hg).name
    rw [hR.dom n h] at e; cases e
/-- Names set aside. -/
theorem Rel.reserve (hR : Rel P B w0 ρ H w) (m : Nat) : Rel P B w0 ρ { H with next := H.next + m } w ∧ St ρ H w ρ { H with next := H.next + m } w :=
  ⟨⟨hR.hB, hR.below, fun n h => hR.dom n (by simp only at h; omega), hR.glob, hR.blk, hR.lt, hR.mu⟩, Ext.refl ρ, Nat.le_refl _, Nat.le_add_right _ _, fun _ _ _ => rfl, fun n b o s h _ => .inl h, fun _ h => h.2, fun _ _ h => h⟩

theorem putObj_eq (w : World) (k : Nat) (o : Obj) : w.putObj k o = World.put w k o := rfl
theorem more_eq (w : World) (o : Obj) : World.more w o w.drawn = w.alloc o := rfl

theorem setL_setL (l : List (Nat × Option Blk)) (a : Nat) (u v : Option Blk) : AH.setL (AH.setL l a u) a v = AH.setL l a v := by
  induction l with
  | nil => simp [AH.setL]
  | cons x r ih =>
    obtain ⟨b, y⟩ := x
    by_cases h : b = a
    · simp [AH.setL, h]
    · simp [AH.setL, h, ih]
theorem drop_set (H : AH) (n : Nat) (b : Blk) : (H.set n b).drop n = H.drop n := by
  simp only [AH.drop, AH.set, setL_setL]

variable {N : Nat} {T : Tm} {tmps : Array Value} {ds : List Deferred} {ro : Option Nat} {n : Nat}

/-- What the evaluator's control gives, the machine's gives. -/
def CtlOK (P : Program) (ro : Option Nat) (n b0 : Nat) (c : Code) (N : Nat) (f : Tm → AH → Option (XExit × Tm × AH)) : Prop :=
  ∀ (T T' : Tm) (H H' : AH) (e : XExit) (B : Nat) (w0 : World) (ρ : Rho) (w : World) (tmps : Array Value) (ds : List Deferred),
    Rel P B w0 ρ H w → TR ρ N T tmps → MK b0 ρ w ds → b0 ≤ w.heap.size → f T H = some (e, T', H') →
    ∀ Q : Exit → Act → World → Prop, (∀ ρ' w' tmps' ds', Rel P B w0 ρ' H' w' → TR ρ' N T' tmps' → St ρ H w ρ' H' w' → MK b0 ρ' w' ds' → Q (toX e) ⟨tmps', ds'⟩ w') →
    c.wpIn (Fw ro) n P Q ⟨tmps, ds⟩ w

theorem iter_ok {b0 : Nat} {c : Code} {f : Tm → AH → Option (XExit × Tm × AH)} (hf : CtlOK P ro n b0 c N f) : ∀ (m : Nat) {T T' : Tm} {H H' : AH} {e : XExit} {B : Nat} {w0 : World} {ρ : Rho} {w : World} {tmps : Array Value} {ds : List Deferred},
    Rel P B w0 ρ H w → TR ρ N T tmps → MK b0 ρ w ds → b0 ≤ w.heap.size → iter m f T H = some (e, T', H') →
    ∀ Q : Exit → Act → World → Prop, (∀ ρ' w' tmps' ds', Rel P B w0 ρ' H' w' → TR ρ' N T' tmps' → St ρ H w ρ' H' w' → MK b0 ρ' w' ds' → Q (toX e) ⟨tmps', ds'⟩ w') →
    Code.roundsIn (Fw ro) n P c Q m ⟨tmps, ds⟩ w
  | 0, _, _, _, _, _, _, _, _, _, _, _, _, _, _, _, h, _, _ => by simp [iter] at h
  | m + 1, T, T', H, H', e, B, w0, ρ, w, tmps, ds, hR, hT, hM, hb, h, Q, hQ => by
    simp only [iter] at h
    rw [roundsIn_succ]
    split at h
    · cases h
    · rename_i T1 H1 h1
      refine hf _ _ _ _ _ _ _ _ _ _ _ hR hT hM hb h1 _ fun ρ' w' tmps' ds' k1 k2 k3 k4 => ?_
      show Code.roundsIn (Fw ro) n P c Q m ⟨tmps', ds'⟩ w'
      exact iter_ok hf m k1 k2 k4 (Nat.le_trans hb k3.size) h Q fun ρ'' w'' t'' d'' q1 q2 q3 q4 => hQ ρ'' w'' t'' d'' q1 q2 (k3.trans q3) q4
    · rename_i r hne h1
      simp only [Option.some.injEq] at h
      subst h
      refine hf _ _ _ _ _ _ _ _ _ _ _ hR hT hM hb h1 _ fun ρ' w' tmps' ds' k1 k2 k3 k4 => ?_
      have := hQ ρ' w' tmps' ds' k1 k2 k3 k4
      cases e with
      | norm => exact absurd rfl (hne _ _)
      | ret => exact this
      | exit id => exact this

theorem execC_ok {call : CallF} (hcall : CallOK P call) (hm : P.follows .mixedOrders = true) (b0 lf : Nat) : ∀ (c : Code) (x : XC), comp P N c = some x → (ro = none ∨ x.flat = true) → CtlOK P ro n b0 c N (execC call lf x)
  | .skip, x, hc, hx => by
    simp only [comp, Option.some.injEq] at hc; subst hc
    intro T T' H H' e B w0 ρ w tmps ds hR hT hM hb h Q hQ
    simp only [execC, Option.some.injEq, Prod.mk.injEq] at h
    obtain ⟨rfl, rfl, rfl⟩ := h
    exact wpIn_skip (hQ ρ w tmps ds hR hT (St.refl ρ H w) hM)
  | .region id ops false, x, hc, hx => by
    simp only [comp, Option.map_eq_some_iff] at hc
    obtain ⟨l, hl, rfl⟩ := hc
    intro T T' H H' e B w0 ρ w tmps ds hR hT hM hb h Q hQ
    simp only [execC, Option.map_eq_some_iff, Prod.mk.injEq] at h
    obtain ⟨⟨T1, H1⟩, h1, rfl, rfl, rfl⟩ := h
    exact wpIn_region (runOps_ok hcall _ _ hl hR hT h1 Q fun ρ' w' tmps' k1 k2 k3 => hQ ρ' w' tmps' ds k1 k2 k3 (hM.step k3))
  | .region id ops true, x, hc, hx => by
    simp only [comp] at hc
    split at hc
    · rename_i l hl
      split at hc
      · rename_i hok
        simp only [Option.some.injEq] at hc; subst hc
        simp only [Bool.and_eq_true, beq_iff_eq] at hok
        intro T T' H H' e B w0 ρ w tmps ds hR hT hM hb h Q hQ
        simp only [execC, Option.map_eq_some_iff, Prod.mk.injEq] at h
        obtain ⟨⟨T1, H1⟩, h1, rfl, rfl, rfl⟩ := h
        obtain ⟨Ts, Hs, vs, ht, _⟩ := runDraw_tra l [] T _ (by simp) h1
        have hr : Reg P N ops (befOf ops) l := reg_of hl hok.1.1 hok.2
        have hL : ∀ i, (Array.replicate ops.size false).getD i false = false := fun i => by
          simp only [Array.getD_eq_getD_getElem?, Array.getElem?_replicate]; split <;> rfl
        obtain ⟨r0, s0⟩ := (hR.drew (w.drawn + 1)).reserve l.length
        have hix : ∀ (p : Nat) (o : XOper), l[p]? = some o → o.ix < l.length := fun p o hp => by
          obtain ⟨c, g, hc, _⟩ := hr.each p o hp
          have := (Array.getElem?_eq_some_iff.1 hc).1
          rw [hok.1.2]; exact this
        refine wpIn_region_any hm ?_
        refine draw_any (ρ0 := ρ) (H0 := H) (w1 := w) hcall hr ht (Nat.le_refl _) Q (fun ρ' w' tmps' k1 k2 k3 => hQ ρ' w' tmps' ds k1 k2 k3 (hM.step k3)) ops.size _ tmps _ 0 ρ (by simp) ?_ ?_ ?_ ?_ (Nat.zero_le _)
        · intro p o _ h1; rw [hL] at h1; cases h1
        · intro S hS h1; exact nodup_le _ S hS fun i hi => (h1 i hi).1
        · refine ⟨ht.H0 ▸ r0, ht.H0 ▸ (St.drew ρ H w _).trans s0, fun p o _ _ => ?_, fun p o _ _ h => by omega, fun p o hp _ _ => ?_, fun p o f hp _ _ h => ?_, fun p o hp _ _ _ => hR.dom _ (by omega)⟩
          · rw [hL]; simp
          · rw [ht.H0]
            exact ⟨by have := hix p o hp; simp only; omega, hR.none_get (by omega)⟩
          · simp only [hL] at h; cases h
        · rw [tl_none l vs _ hL T]; exact hT
      · cases hc
    · cases hc
  | .seq a b, x, hc, hx => by
    simp only [comp] at hc
    split at hc
    · rename_i a' b' h1 h2
      simp only [Option.some.injEq] at hc; subst hc
      intro T T' H H' e B w0 ρ w tmps ds hR hT hM hb h Q hQ
      have hx1 : ro = none ∨ a'.flat = true := hx.imp id fun h => by simp only [XC.flat, Bool.and_eq_true] at h; exact h.1
      have hx2 : ro = none ∨ b'.flat = true := hx.imp id fun h => by simp only [XC.flat, Bool.and_eq_true] at h; exact h.2
      simp only [execC] at h
      refine wpIn_seq ?_
      split at h
      · rename_i T1 H1 g1
        refine execC_ok hcall hm b0 lf a a' h1 hx1 _ _ _ _ _ _ _ _ _ _ _ hR hT hM hb g1 _ fun ρ' w' tmps' ds' k1 k2 k3 k4 => ?_
        show b.wpIn (Fw ro) n P Q ⟨tmps', ds'⟩ w'
        exact execC_ok hcall hm b0 lf b b' h2 hx2 _ _ _ _ _ _ _ _ _ _ _ k1 k2 k4 (Nat.le_trans hb k3.size) h Q fun ρ'' w'' t'' d'' q1 q2 q3 q4 => hQ ρ'' w'' t'' d'' q1 q2 (k3.trans q3) q4
      · rename_i hne
        refine execC_ok hcall hm b0 lf a a' h1 hx1 _ _ _ _ _ _ _ _ _ _ _ hR hT hM hb h _ fun ρ' w' tmps' ds' k1 k2 k3 k4 => ?_
        have := hQ ρ' w' tmps' ds' k1 k2 k3 k4
        cases e with
        | norm => exact absurd h (hne _ _)
        | ret => exact this
        | exit id => exact this
    · cases hc
  | .cond o a b, x, hc, hx => by
    simp only [comp] at hc
    split at hc
    · rename_i o' a' b' h0 h1 h2
      simp only [Option.some.injEq] at hc; subst hc
      intro T T' H H' e B w0 ρ w tmps ds hR hT hM hb h Q hQ
      have hx1 : ro = none ∨ a'.flat = true := hx.imp id fun h => by simp only [XC.flat, Bool.and_eq_true] at h; exact h.1
      have hx2 : ro = none ∨ b'.flat = true := hx.imp id fun h => by simp only [XC.flat, Bool.and_eq_true] at h; exact h.2
      simp only [execC] at h
      have hv := cX_ok (ds := ds) hR hT h0
      split at h
      · rename_i g0
        rw [g0] at hv
        exact wpIn_cond_true (VR_b hv) (execC_ok hcall hm b0 lf a a' h1 hx1 _ _ _ _ _ _ _ _ _ _ _ hR hT hM hb h Q hQ)
      · rename_i g0
        rw [g0] at hv
        exact wpIn_cond_false (VR_b hv) (execC_ok hcall hm b0 lf b b' h2 hx2 _ _ _ _ _ _ _ _ _ _ _ hR hT hM hb h Q hQ)
      · cases h
    · cases hc
  | .block bid b, x, hc, hx => by
    simp only [comp, Option.map_eq_some_iff] at hc
    obtain ⟨b', h1, rfl⟩ := hc
    intro T T' H H' e B w0 ρ w tmps ds hR hT hM hb h Q hQ
    have hx1 : ro = none ∨ b'.flat = true := hx.imp id fun h => by simpa only [XC.flat] using h
    simp only [execC] at h
    refine wpIn_block ?_
    split at h
    · rename_i j T1 H1 g1
      refine execC_ok hcall hm b0 lf b b' h1 hx1 _ _ _ _ _ _ _ _ _ _ _ hR hT hM hb g1 _ fun ρ' w' tmps' ds' k1 k2 k3 k4 => ?_
      simp only [toX, Exit.inBlock]
      split at h
      · rename_i hj
        simp only [Option.some.injEq, Prod.mk.injEq] at h
        obtain ⟨rfl, rfl, rfl⟩ := h
        rw [if_pos hj]
        exact hQ ρ' w' tmps' ds' k1 k2 k3 k4
      · rename_i hj
        simp only [Option.some.injEq, Prod.mk.injEq] at h
        obtain ⟨rfl, rfl, rfl⟩ := h
        rw [if_neg hj]
        exact hQ ρ' w' tmps' ds' k1 k2 k3 k4
    · rename_i hne
      refine execC_ok hcall hm b0 lf b b' h1 hx1 _ _ _ _ _ _ _ _ _ _ _ hR hT hM hb h _ fun ρ' w' tmps' ds' k1 k2 k3 k4 => ?_
      have := hQ ρ' w' tmps' ds' k1 k2 k3 k4
      cases e with
      | norm => exact this
      | ret => exact this
      | exit id => exact absurd h (hne _ _ _)
  | .loop b, x, hc, hx => by
    simp only [comp, Option.map_eq_some_iff] at hc
    obtain ⟨b', h1, rfl⟩ := hc
    intro T T' H H' e B w0 ρ w tmps ds hR hT hM hb h Q hQ
    have hx1 : ro = none ∨ b'.flat = true := hx.imp id fun h => by simpa only [XC.flat] using h
    simp only [execC] at h
    exact wpIn_loop_rounds lf (iter_ok (execC_ok hcall hm b0 lf b b' h1 hx1) lf hR hT hM hb h Q hQ)
  | .rangeFunc g ps asg body, x, hc, hx => by
    simp only [comp] at hc
    split at hc
    · rename_i f' asg' body' h0 h1 h2
      split at hc
      · rename_i hps
        simp only [Option.some.injEq] at hc; subst hc
        rcases hx with rfl | hx
        · intro T T' H H' e B w0 ρ w tmps ds hR hT hM hb h Q hQ
          simp only [Bool.and_eq_true] at hps
          simp only [execC] at h
          split at h
          · rename_i g' first cap g0
            split at h
            · rename_i cv H1 hc1
              have hv := cX_ok (ds := ds) hR hT h0
              rw [g0] at hv
              simp only [VR] at hv
              obtain ⟨f2, a2, b2, hfv, hf2, ha2, hb2⟩ := hv
              simp only [FR] at hf2; subst hf2
              obtain ⟨r1, s1⟩ := hR.push (.deferred (some []))
              refine wpIn_rangeFunc fun fnid _ => ?_
              have hz : (w.alloc (.deferred (some []))).heap.size = w.heap.size + 1 := World.size_alloc ..
              have hBw : B ≤ w.heap.size := Nat.le_trans hR.hB hR.below.size
              obtain ⟨r2, s2⟩ := r1.more (.loop { state := .ready, pending := none, fn := fnid, tmps := tmps, params := ps, assign := asg, body := body, defers := w.heap.size }) (w.alloc (.deferred (some []))).drawn 0
                (b := .loop .ready none ps.toList asg' body' T) (fun ρ' he hn => ⟨_, 0, 0, _, N, hn, more_new _ _, by omega, rfl, rfl, rfl, (fun p hp => by obtain ⟨i, hi, rfl⟩ := Array.mem_iff_getElem.1 (by simpa using hp); have := hps.1; simp at this; exact this i hi), h1, h2, by simpa using hps.2, TR_mono he hT⟩)
              rw [more_eq] at r2 s2
              have s12 := s1.trans s2
              have hM2 : MK b0 (ρ.upd H.next ((w.alloc (.deferred (some []))).heap.size, 0, 0)) ((w.alloc (.deferred (some []))).alloc (.loop { state := .ready, pending := none, fn := fnid, tmps := tmps, params := ps, assign := asg, body := body, defers := w.heap.size }))
                  ([{ target := .collected w.heap.size, args := #[] }] ++ ds) := by
                obtain ⟨Ds, rfl, hnd, hD⟩ := hM.step s12
                refine ⟨w.heap.size :: Ds, rfl, List.nodup_cons.2 ⟨fun hin => ?_, hnd⟩, fun D hD' => ?_⟩
                · obtain ⟨Ds', e', _, hD''⟩ := hM
                  have : w.heap.size ∈ Ds' := by
                    have : Ds = Ds' := by
                      have hinj : ∀ a b, mark a = mark b → a = b := fun a b h => by simpa [mark] using h
                      exact (List.map_inj_right hinj).1 e'
                    exact this ▸ hin
                  have := (Array.getElem?_eq_some_iff.1 (hD'' _ this).2.1).1
                  omega
                · rcases List.mem_cons.1 hD' with rfl | hD'
                  · refine ⟨hb, ?_, fun n o s e => ?_⟩
                    · show ((w.heap.push _).push _)[w.heap.size]? = _
                      rw [Array.getElem?_push_lt (by simp)]; simp
                    · unfold Rho.upd at e
                      split at e
                      · simp only [Option.some.injEq, Prod.mk.injEq] at e; omega
                      · have := hR.lt _ _ _ _ e; omega
                  · exact hD D hD'
              have hres := hcall _ _ _ _ _ hc1 B w0 _ _ (Act.eval ⟨tmps, ds⟩ g) #[.func (.yield (w.heap.size + 1)) #[] #[]] r2 (VR_mono s12.ext (by simp only [VR]; exact ⟨_, a2, b2, hfv, rfl, ha2, hb2⟩))
                (VRL_cons (by simp only [VR]; exact ⟨_, #[], #[], rfl, ⟨_, _, _, Rho.upd_same, by rw [hz]⟩, VRL_nil, VRL_nil⟩) VRL_nil)
              rcases hres with ⟨g1, first', cap', fn1, hfv', hfn, hbody, hname, hcalls⟩ | ⟨l0, f1, tm1, asg1, body1, hfv', _⟩
              · have hresolve : ∀ W, (resolve (Act.eval ⟨tmps, ds⟩) (rangeCall g (w.heap.size + 1)) 0).run P W = .ok { target := .fn (.func g1) cap', args := first' ++ #[.func (.yield (w.heap.size + 1)) #[] #[]] } W := fun W => by
                  have ha : (#[Operand.const (.func (.yield (w.heap.size + 1)) #[] #[])] : Array Operand).map (Act.eval ⟨tmps, ds⟩) = #[.func (.yield (w.heap.size + 1)) #[] #[]] := by simp [Act.eval]
                  simp only [resolve, hfv', Deferred.ofValue, Sem.run_pure, ha]
                have hinvoke : ∀ W, (invoke (.fn (.func g1) cap') (first' ++ #[.func (.yield (w.heap.size + 1)) #[] #[]])).run P W = .ok (.enter g1 (first' ++ #[.func (.yield (w.heap.size + 1)) #[] #[]] ++ cap')) W := fun W => by
                  simp only [invoke, callFunc, Sem.run_bind, run_program, Result.andThen_ok, hfn, hname, Bool.false_eq_true, if_false]
                  rw [if_neg (by cases hb : fn1.body <;> simp_all)]
                  rfl
                refine ⟨_, _, _, _, _, _, _, _, run_enterLoop_outer .., hresolve _, fun _ _ => trivial, hinvoke _, (fun h => by cases h), ?_⟩
                · refine CallsIn.mono (callsIn_fw (hcalls (n - 1))) ?_
                  rintro e1 w' ⟨cv', ρ', rfl, k1, k2, k3⟩
                  have hnm : ρ' H.next = some ((w.alloc (.deferred (some []))).heap.size, 0, 0) := k3.ext _ _ Rho.upd_same
                  split at h
                  · rename_i st pend _ _ _ _ hH1
                    obtain ⟨k, o, s, r, N', q1, q2, q3, q4, q5, q6, q7, q8, q9, q10, q11⟩ := k2.blk _ _ hH1
                    rw [hnm] at q1
                    simp only [Option.some.injEq, Prod.mk.injEq] at q1
                    obtain ⟨rfl, rfl, rfl⟩ := q1
                    rw [hz] at q2 hnm
                    split at h
                    · cases h
                    · rename_i hbusy
                      have hbusy' : r.state ≠ .busy := by rw [q4]; exact hbusy
                      obtain ⟨r3, s3⟩ := k2.put hH1 rfl hnm (x := .loop { r with state := .exhausted }) (b' := .loop .exhausted pend _ _ _ _) ⟨_, 0, 0, _, N', hnm, put_same q2, by omega, rfl, q5, q6, q7, q8, q9, q10, q11⟩
                      have r4 := r3.drop H.next
                      rw [drop_set] at r4
                      have s4 := (s12.trans (k3.trans s3)).drop H.next
                      rw [drop_set] at s4
                      have hM4 := hM2.step (k3.trans s3)
                      refine ⟨_, _, run_endLoop q2 hbusy', ?_⟩
                      cases pend with
                      | none =>
                        simp only [Option.some.injEq, Prod.mk.injEq] at h
                        obtain ⟨rfl, rfl, rfl⟩ := h
                        have hQ' := hQ _ _ _ _ r4 (TR_mono s4.ext hT) s4 hM4
                        split
                        · exact hQ'
                        · rename_i hp; rw [q5] at hp; cases hp
                      | some e2 =>
                        simp only [Option.some.injEq, Prod.mk.injEq] at h
                        obtain ⟨rfl, rfl, rfl⟩ := h
                        have hQ' := hQ _ _ _ _ r4 (TR_mono s4.ext hT) s4 hM4
                        split
                        · rename_i hp; rw [q5] at hp
                          cases e2 with
                          | norm => exact hQ'
                          | ret => cases hp
                          | exit id => cases hp
                        · rename_i c hp; rw [q5] at hp
                          cases e2 with
                          | norm => cases hp
                          | ret => cases hp; exact wpIn_ret hQ'
                          | exit id => cases hp; exact wpIn_exit hQ'
                  · cases h
              · rw [hfv] at hfv'
                simp at hfv'
            · cases h
          · cases h
        · simp [XC.flat] at hx
      · cases hc
    · cases hc
  | .exit id, x, hc, hx => by
    simp only [comp, Option.some.injEq] at hc; subst hc
    intro T T' H H' e B w0 ρ w tmps ds hR hT hM hb h Q hQ
    simp only [execC, Option.some.injEq, Prod.mk.injEq] at h
    obtain ⟨rfl, rfl, rfl⟩ := h
    exact wpIn_exit (hQ ρ w tmps ds hR hT (St.refl ρ H w) hM)
  | .ret, x, hc, hx => by
    simp only [comp, Option.some.injEq] at hc; subst hc
    intro T T' H H' e B w0 ρ w tmps ds hR hT hM hb h Q hQ
    simp only [execC, Option.some.injEq, Prod.mk.injEq] at h
    obtain ⟨rfl, rfl, rfl⟩ := h
    exact wpIn_ret (hQ ρ w tmps ds hR hT (St.refl ρ H w) hM)
  | .goto _, x, hc, _ | .label _, x, hc, _ | .scope _, x, hc, _ | .refuse _, x, hc, _ => by simp [comp] at hc

/-! ### A body that jumps back to its beginning -/
def backPost (l : Nat) (J : Act → World → Prop) (Q : Exit → Act → World → Prop) : Exit → Act → World → Prop
  | .goto l', a, w => l' = l ∧ J a w
  | .normal, a, w => Q .normal a w
  | .exit id, a, w => Q (.exit id) a w
  | .ret, a, w => Q .ret a w
  | .panic ch, a, w => Q (.panic ch) a w
  | .outgrown, a, w => Q .outgrown a w
def backIn (F : Fence) (n : Nat) (P : Program) (l : Nat) (r : Code) (Q : Exit → Act → World → Prop) : Nat → Act → World → Prop
  | 0, _, _ => False
  | m + 1, a, w => r.wpIn F n P (backPost l (backIn F n P l r Q m) Q) a w
theorem stepR_scope {b : Frame} {a : Act} {k : List Item} {cs : List Frame} {c : Code} : step P (lone (b.atR a (.code (.scope c) :: k)) cs w) = .next (lone (b.atR a (.code c :: .inScope c :: k)) cs w) :=
  step_lone_go (by simp [stepG, stepG.exec, Frame.atR])
theorem stepR_inScope {b : Frame} {a : Act} {k : List Item} {cs : List Frame} {c : Code} : step P (lone (b.atR a (.inScope c :: k)) cs w) = .next (lone (b.atR a k) cs w) :=
  step_lone_go (by simp [stepG, stepG.exec, Frame.atR])
theorem wpIn_back {F : Fence} {a : Act} {Q : Exit → Act → World → Prop} {l : Nat} {r : Code} (m : Nat) (h : backIn F n P l r Q m a w) : (Code.scope (.seq (.label l) r)).wpIn F n P Q a w := by
  intro b k cs hro hb hr
  have hg : gotoIn l (.inScope (.seq (.label l) r) :: k) = some (.code (.seq .skip r) :: .inScope (.seq (.label l) r) :: k) := by simp [gotoIn, findLabel]
  have key : ∀ m a w, backIn F n P l r Q m a w →
      ∃ e a' w', Q e a' w' ∧ ArrivesIn (Machine.fenced P F) P (lone (b.atR a (.code r :: .inScope (.seq (.label l) r) :: k)) cs w) b k cs e a' w' := by
    intro m
    induction m with
    | zero => intro a w h; exact h.elim
    | succ m ih =>
      intro a w h
      obtain ⟨e, a₁, w₁, hq, harr⟩ := h b (.inScope (.seq (.label l) r) :: k) cs hro hb hr
      cases e with
      | normal => exact ⟨.normal, a₁, w₁, hq, StepsIn.trans harr (.one (fenced_calm hb hr rfl) stepR_inScope)⟩
      | exit id => exact ⟨_, a₁, w₁, hq, fun k' hk => harr.1 k' (by simp [exitTo, hk]), fun hr' hk => harr.2 hr' (by simp [exitTo, hk])⟩
      | goto l' =>
        obtain ⟨rfl, hJ⟩ := hq
        obtain ⟨e₂, a₂, w₂, hq₂, harr₂⟩ := ih a₁ w₁ hJ
        exact ⟨e₂, a₂, w₂, hq₂, .of_steps (StepsIn.trans (harr.1 _ hg) (.head (fenced_calm hb hr rfl) stepR_seq (.one (fenced_calm hb hr rfl) stepR_skip))) harr₂⟩
      | ret => exact ⟨_, a₁, w₁, hq, harr⟩
      | panic ch => exact ⟨_, a₁, w₁, hq, harr⟩
      | outgrown => exact ⟨_, a₁, w₁, hq, harr⟩
  obtain ⟨e, a', w', hq, harr⟩ := key m a w h
  exact ⟨e, a', w', hq, .of_steps (.head (fenced_calm hb hr rfl) stepR_scope (.head (fenced_calm hb hr rfl) stepR_seq (.one (fenced_calm hb hr rfl) stepR_label))) harr⟩
def toT (l : Nat) : XExit → Exit
  | .norm => .goto l
  | .ret => .ret
  | .exit id => .exit id
theorem execT_ok {call : CallF} (hcall : CallOK P call) (hm : P.follows .mixedOrders = true) (b0 lf l : Nat) : ∀ (c : Code) (x : XC), compT P N l c = some x → (ro = none ∨ x.flat = true) →
    ∀ (T T' : Tm) (H H' : AH) (e : XExit) (B : Nat) (w0 : World) (ρ : Rho) (w : World) (tmps : Array Value) (ds : List Deferred),
    Rel P B w0 ρ H w → TR ρ N T tmps → MK b0 ρ w ds → b0 ≤ w.heap.size → execC call lf x T H = some (e, T', H') →
    ∀ Q : Exit → Act → World → Prop, (∀ ρ' w' tmps' ds', Rel P B w0 ρ' H' w' → TR ρ' N T' tmps' → St ρ H w ρ' H' w' → MK b0 ρ' w' ds' → Q (toT l e) ⟨tmps', ds'⟩ w') →
    c.wpIn (Fw ro) n P Q ⟨tmps, ds⟩ w
  | .seq a b, x, hc, hx => by
    simp only [compT] at hc
    split at hc
    · rename_i a' b' h1 h2
      simp only [Option.some.injEq] at hc; subst hc
      intro T T' H H' e B w0 ρ w tmps ds hR hT hM hb h Q hQ
      have hx1 : ro = none ∨ a'.flat = true := hx.imp id fun h => by simp only [XC.flat, Bool.and_eq_true] at h; exact h.1
      have hx2 : ro = none ∨ b'.flat = true := hx.imp id fun h => by simp only [XC.flat, Bool.and_eq_true] at h; exact h.2
      simp only [execC] at h
      refine wpIn_seq ?_
      split at h
      · rename_i T1 H1 g1
        refine execC_ok hcall hm b0 lf a a' h1 hx1 _ _ _ _ _ _ _ _ _ _ _ hR hT hM hb g1 _ fun ρ' w' tmps' ds' k1 k2 k3 k4 => ?_
        show b.wpIn (Fw ro) n P Q ⟨tmps', ds'⟩ w'
        exact execT_ok hcall hm b0 lf l b b' h2 hx2 _ _ _ _ _ _ _ _ _ _ _ k1 k2 k4 (Nat.le_trans hb k3.size) h Q fun ρ'' w'' t'' d'' q1 q2 q3 q4 => hQ ρ'' w'' t'' d'' q1 q2 (k3.trans q3) q4
      · rename_i hne
        refine execC_ok hcall hm b0 lf a a' h1 hx1 _ _ _ _ _ _ _ _ _ _ _ hR hT hM hb h _ fun ρ' w' tmps' ds' k1 k2 k3 k4 => ?_
        have := hQ ρ' w' tmps' ds' k1 k2 k3 k4
        cases e with
        | norm => exact absurd h (hne _ _)
        | ret => exact this
        | exit id => exact this
    · cases hc
  | .goto l', x, hc, hx => by
    simp only [compT] at hc
    split at hc
    · rename_i hl
      simp only [Option.some.injEq] at hc; subst hc; subst hl
      intro T T' H H' e B w0 ρ w tmps ds hR hT hM hb h Q hQ
      simp only [execC, Option.some.injEq, Prod.mk.injEq] at h
      obtain ⟨rfl, rfl, rfl⟩ := h
      exact wpIn_goto (hQ ρ w tmps ds hR hT (St.refl ρ H w) hM)
    · cases hc
  | .skip, x, hc, _ | .region _ _ _, x, hc, _ | .cond _ _ _, x, hc, _ | .block _ _, x, hc, _ | .loop _, x, hc, _ | .rangeFunc _ _ _ _, x, hc, _ | .exit _, x, hc, _ | .ret, x, hc, _ | .label _, x, hc, _ | .scope _, x, hc, _ | .refuse _, x, hc, _ => by simp [compT] at hc
theorem backs_ok {call : CallF} (hcall : CallOK P call) (hm : P.follows .mixedOrders = true) (b0 lf l : Nat) {r : Code} {x : XC} (hc : compT P N l r = some x) (hx : ro = none ∨ x.flat = true) : ∀ (m : Nat) {T T' : Tm} {H H' : AH} {e : XExit} {B : Nat} {w0 : World} {ρ : Rho} {w : World} {tmps : Array Value} {ds : List Deferred},
    Rel P B w0 ρ H w → TR ρ N T tmps → MK b0 ρ w ds → b0 ≤ w.heap.size → iter m (execC call lf x) T H = some (e, T', H') →
    ∀ Q : Exit → Act → World → Prop, (∀ ρ' w' tmps' ds', Rel P B w0 ρ' H' w' → TR ρ' N T' tmps' → St ρ H w ρ' H' w' → MK b0 ρ' w' ds' → Q (toX e) ⟨tmps', ds'⟩ w') →
    backIn (Fw ro) n P l r Q m ⟨tmps, ds⟩ w
  | 0, _, _, _, _, _, _, _, _, _, _, _, _, _, _, _, h, _, _ => by simp [iter] at h
  | m + 1, T, T', H, H', e, B, w0, ρ, w, tmps, ds, hR, hT, hM, hb, h, Q, hQ => by
    simp only [iter] at h
    show r.wpIn _ _ _ _ _ _
    split at h
    · cases h
    · rename_i T1 H1 h1
      refine execT_ok hcall hm b0 lf l r x hc hx _ _ _ _ _ _ _ _ _ _ _ hR hT hM hb h1 _ fun ρ' w' tmps' ds' k1 k2 k3 k4 => ?_
      exact ⟨rfl, backs_ok hcall hm b0 lf l hc hx m k1 k2 k4 (Nat.le_trans hb k3.size) h Q fun ρ'' w'' t'' d'' q1 q2 q3 q4 => hQ ρ'' w'' t'' d'' q1 q2 (k3.trans q3) q4⟩
    · rename_i r' hne h1
      simp only [Option.some.injEq] at h
      subst h
      refine execT_ok hcall hm b0 lf l r x hc hx _ _ _ _ _ _ _ _ _ _ _ hR hT hM hb h1 _ fun ρ' w' tmps' ds' k1 k2 k3 k4 => ?_
      have := hQ ρ' w' tmps' ds' k1 k2 k3 k4
      cases e with
      | norm => exact absurd rfl (hne _ _)
      | ret => exact this
      | exit id => exact this
theorem execB_ok {call : CallF} (hcall : CallOK P call) (hm : P.follows .mixedOrders = true) (b0 lf : Nat) {c : Code} {x : XC} (h : compB P N c = some x) : CtlOK P none n b0 c N (execC call lf x) := by
  unfold compB at h
  split at h
  · rename_i l r
    simp only [Option.map_eq_some_iff] at h
    obtain ⟨x', h1, rfl⟩ := h
    intro T T' H H' e B w0 ρ w tmps ds hR hT hM hb h Q hQ
    simp only [execC] at h
    exact wpIn_back lf (backs_ok hcall hm b0 lf l h1 (.inl rfl) lf hR hT hM hb h Q hQ)
  · exact execC_ok hcall hm b0 lf _ _ h (.inl rfl)
end
end Go.Proofs.Ytjheedfobmlalaa.E
