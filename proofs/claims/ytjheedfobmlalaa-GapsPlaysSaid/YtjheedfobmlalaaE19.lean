/- Calls: what the evaluator gives, the machine gives. It bears no condition. -/
import Derived.Test.YtjheedfobmlalaaE18
namespace Go.Proofs.Ytjheedfobmlalaa.E
open Go.RowKit (Below)
set_option linter.unusedVariables false
set_option linter.unusedSimpArgs false

section
variable {P : Program} {B : Nat} {w0 w : World} {ρ : Rho} {H : AH} {N : Nat} {T : Tm} {tmps : Array Value} {ds : List Deferred} {ro : Option Nat} {n : Nat}

/-! ### Results -/
theorem loadVar_ok (hR : Rel P B w0 ρ H w) {t : TypeId} {x : AV} {a : Value} {n : Nat} {v : AV} (hx : VR ρ x a) (hn : tsize P t = some n) (hu : (P.underlying t).isSome = true)
    (h : (match (generalizing := false) x with
      | .p (some (b, o)) =>
        match H.get b with
        | some (.cells c _) => if tagg P t then (takeAt c o n).map .agg else c[o]?
        | _ => none
      | _ => none) = some v) : ∃ ad, a = .pointer (some ad) ∧ Lk P w ρ (loadVar t ad) v := by
  split at h
  · rename_i b o
    obtain ⟨k, o', s, hk, rfl⟩ := VR_p hx
    refine ⟨_, rfl, ?_⟩
    split at h
    · rename_i c mu hb
      obtain ⟨k2, o2, s2, cs, t2, fr, hk2, hw, hs, hc, hone, _⟩ := hR.blk _ _ hb
      simp only at hk
      rw [hk] at hk2; cases hk2
      unfold Lk
      simp only [Sem.run_bind, loadVar, run_isAgg hn hu, Result.andThen_ok]
      cases ht : tagg P t with
      | true =>
        simp only [ht, if_true, Option.map_eq_some_iff] at h
        obtain ⟨l, hl, rfl⟩ := h
        obtain ⟨vs, hv, hr⟩ := run_loadCells_of (P := P) hw hc hl
        simp only [if_true, Sem.run_bind, run_sizeOf hn, Result.andThen_ok, hr, Sem.run_pure]
        exact ⟨_, rfl, by simp only [VR]; exact ⟨_, rfl, by simpa using hv, fun x hx => by obtain ⟨_, rfl, _⟩ := takeAt_some hl; exact hone x (List.mem_of_mem_drop (List.mem_of_mem_take hx))⟩⟩
      | false =>
        simp only [ht, Bool.false_eq_true, if_false] at h ⊢
        obtain ⟨cv, hcv, hv⟩ := hc _ _ h
        refine ⟨cv, ?_, hv⟩
        rw [run_load, cell_of_blk hw, hcv]
    · cases h
  · cases h

def resSem (tmps : Array Value) : ResultVar → Sem Value
  | .tmp t => pure (tmps.getD t undef)
  | .cell a t => do loadVar t (← asAddr (tmps.getD a undef))
theorem results_eq (fn : Func) (tmps : Array Value) : results fn tmps = (do let vs ← fn.results.mapM (resSem tmps); pure (if h : vs.size = 1 then vs[0] else .tuple vs)) := by
  unfold results
  congr 2

theorem resL_ok (hR : Rel P B w0 ρ H w) (hT : TR ρ N T tmps) : ∀ (rs : List ResultVar) (xs : List XRes) (vs : List AV), cResL P rs = some xs → resL T H xs = some vs →
    ∃ cs, (rs.mapM (resSem tmps)).run P w = .ok cs w ∧ VRL ρ vs cs
  | [], xs, vs, hc, h => by
    simp only [cResL, Option.some.injEq] at hc; subst hc
    simp only [resL, Option.some.injEq] at h; subst h
    exact ⟨[], by simp, VRL_nil⟩
  | r :: rs, xs, vs, hc, h => by
    simp only [cResL] at hc
    split at hc
    · rename_i a l h1 h2
      simp only [Option.some.injEq] at hc; subst hc
      simp only [resL] at h
      split at h
      · rename_i v vs' h3 h4
        simp only [Option.some.injEq] at h; subst h
        obtain ⟨cs, hcs, hv⟩ := resL_ok hR hT rs l vs' h2 h4
        cases r with
        | tmp t =>
          simp only [cRes, Option.some.injEq] at h1; subst h1
          simp only [XRes.get, Option.some.injEq] at h3; subst h3
          refine ⟨tmps.getD t undef :: cs, ?_, VRL_cons (hT.2 t) hv⟩
          rw [List.mapM_cons]
          simp only [resSem, Sem.run_bind, Sem.run_pure, Result.andThen_ok, hcs]
        | cell a' t =>
          simp only [cRes] at h1
          split at h1
          · rename_i hu
            simp only [Option.map_eq_some_iff] at h1
            obtain ⟨n, hn, rfl⟩ := h1
            simp only [XRes.get] at h3
            obtain ⟨ad, had, c, hc, hcv⟩ := loadVar_ok hR (hT.2 a') hn hu h3
            refine ⟨c :: cs, ?_, VRL_cons hcv hv⟩
            rw [List.mapM_cons]
            simp only [resSem, Sem.run_bind, Sem.run_pure, Result.andThen_ok, hcs, had, asAddr, hc]
          · cases h1
      · cases h
    · cases hc

theorem results_ok (hR : Rel P B w0 ρ H w) (hT : TR ρ N T tmps) {fn : Func} {xs : List XRes} {vs : List AV} (hc : cResL P fn.results.toList = some xs) (h : resL T H xs = some vs) :
    ∃ c, (results fn tmps).run P w = .ok c w ∧ VR ρ (resV vs) c := by
  obtain ⟨cs, hcs, hv⟩ := resL_ok hR hT _ _ _ hc h
  rw [results_eq, Array.mapM_eq_mapM_toList]
  simp only [Sem.run_bind, map_eq_pure_bind, hcs, Sem.run_pure, Result.andThen_ok]
  refine ⟨_, rfl, ?_⟩
  match vs, hv with
  | [], hv => rw [VRL_nil_iff] at hv; subst hv; simp only [resV, VR]; exact ⟨#[], by simp, VRL_nil⟩
  | [v], hv =>
    rw [VRL_cons_iff] at hv
    obtain ⟨y, ys, rfl, h1, h2⟩ := hv
    rw [VRL_nil_iff] at h2; subst h2
    simpa [resV] using h1
  | v :: v2 :: vs, hv =>
    have := VRL_len hv
    simp only [resV, VR]
    refine ⟨cs.toArray, ?_, by simpa using hv⟩
    rw [dif_neg (by simp only [List.size_toArray]; rw [← this]; simp)]

/-! ### On the way out -/
theorem leaves_ok {fn : Func} {R : Ending → World → Prop} {ρ0 : Rho} {He : AH} {we : World} {F : Fence} (hBe : B ≤ we.heap.size) : ∀ (Ds : List Nat) (w : World), Rel P B w0 ρ H w → St ρ0 He we ρ H w → Ds.Nodup →
    (∀ D ∈ Ds, we.heap.size ≤ D ∧ w.heap[D]? = some (.deferred (some [])) ∧ ∀ n o s, ρ n ≠ some (D, o, s)) →
    (∀ w', Rel P B w0 ρ H w' → St ρ0 He we ρ H w' → ∃ v, (results fn tmps).run P w' = .ok v w' ∧ R (.returned v) w') → LeavesInM F n P fn tmps R (Ds.map mark) .returning w
  | [], w, hR, hS, _, _, hQ => hQ w hR hS
  | D :: Ds, w, hR, hS, hnd, hD, hQ => by
    obtain ⟨h1, h2, h3⟩ := hD D (List.mem_cons_self ..)
    obtain ⟨hnin, hnd'⟩ := List.nodup_cons.1 hnd
    refine ⟨(by simp), .inl ⟨D, _, rfl, run_takeDeferred h2, ?_⟩⟩
    refine leaves_ok hBe Ds _ (hR.foreign (Nat.le_trans hBe h1) h3 _) (hS.foreign h1 _) hnd' (fun D' hD' => ?_) hQ
    obtain ⟨k1, k2, k3⟩ := hD D' (List.mem_cons_of_mem _ hD')
    refine ⟨k1, ?_, k3⟩
    rw [putObj_eq, put_other (fun e => by subst e; exact hnin hD')]
    exact k2

/-! ### Arguments -/
theorem argsT_get : ∀ (vs : List AV) (k t : Nat), (argsT k vs).get t = if k ≤ t then (vs[t - k]?).getD und else und
  | [], k, t => by simp [argsT, Tm.get]
  | v :: vs, k, t => by
    simp only [argsT, Tm.get]
    by_cases h : k = t
    · subst h; simp
    · rw [if_neg h, argsT_get vs (k + 1) t]
      by_cases h2 : k ≤ t
      · have : t - k = (t - (k + 1)) + 1 := by omega
        rw [if_pos (by omega), if_pos h2, this]; simp
      · rw [if_neg (by omega), if_neg h2]
theorem args_ok {vs : List AV} {as : Array Value} (h : VRL ρ vs as.toList) (N : Nat) : TR ρ N (argsT 0 vs) (as ++ Array.replicate (N - as.size) undef) := by
  refine ⟨by simp; omega, fun t => ?_⟩
  rw [argsT_get]
  simp only [Nat.zero_le, if_true, Nat.sub_zero]
  have hl : vs.length = as.size := by simpa using VRL_len h
  rw [Array.getD_eq_getD_getElem?, Array.getElem?_append]
  split
  · rename_i ht
    cases hv : vs[t]? with
    | none => rw [List.getElem?_eq_none_iff] at hv; omega
    | some v =>
      obtain ⟨c, hc, hv'⟩ := VRL_get h t v hv
      rw [Array.getElem?_toList] at hc
      rw [hc]
      exact hv'
  · rename_i ht
    rw [List.getElem?_eq_none (by omega), Array.getElem?_replicate]
    split <;> exact VR_und

theorem setParams_ok : ∀ (ps : List Nat) (vs : List AV) (as : List Value) (T : Tm) (tmps : Array Value), TR ρ N T tmps → (∀ p ∈ ps, p < N) → VRL ρ vs as →
    TR ρ N (setParams T ps vs) ((ps.zip as).foldl (fun tmps (t, a) => tmps.setIfInBounds t a) tmps)
  | [], vs, as, T, tmps, hT, _, _ => by simpa [setParams] using hT
  | p :: ps, [], as, T, tmps, hT, _, h => by rw [VRL_nil_iff] at h; subst h; simpa [setParams] using hT
  | p :: ps, v :: vs, as, T, tmps, hT, hp, h => by
    rw [VRL_cons_iff] at h
    obtain ⟨y, ys, rfl, h1, h2⟩ := h
    simp only [setParams, List.zip_cons_cons, List.foldl_cons]
    refine setParams_ok ps vs ys _ _ ?_ (fun q hq => hp q (List.mem_cons_of_mem _ hq)) h2
    have := hT.put (d := some p) (ds := []) (by simpa using hp p (List.mem_cons_self ..)) h1
    simpa [Tm.put, Act.put] using this

/-- Functions whose answer is told by a fact. -/
def SpOK (P : Program) (tab : Nat → Option XFun) (sp : Nat → List AV → AH → Option (AV × AH)) : Prop := ∀ g args H v H', tab g = none → sp g args H = some (v, H') → ∀ B w0 ρ w as, Rel P B w0 ρ H w → VRL ρ args as.toList →
  ∃ fn, P.funcs[g]? = some fn ∧ fn.body.isSome = true ∧ (fn.name == "runtime.NumGoroutine") = false ∧ ∀ n, CallsIn Fence.wide n P g as w fun e w' => ∃ cv ρ', e = .returned cv ∧ VR ρ' v cv ∧ Rel P B w0 ρ' H' w' ∧ St ρ H w ρ' H' w'
def TabOK (P : Program) (tab : Nat → Option XFun) : Prop := ∀ g F, tab g = some F → compF P g = some F

theorem fun_ok {call : CallF} (hcall : CallOK P call) (hm : P.follows .mixedOrders = true) {lf g : Nat} {F : XFun} (hF : compF P g = some F) {args : List AV} {e : XExit} {T' : Tm} {H' : AH}
    (h : execC call lf F.body (argsT 0 args) H = some (e, T', H')) (he : e = .norm ∨ e = .ret) {vs : List AV} (hr : resL T' H' F.results = some vs) (hR : Rel P B w0 ρ H w) {as : Array Value} (ha : VRL ρ args as.toList) :
    ∃ fn, P.funcs[g]? = some fn ∧ fn.body.isSome = true ∧ (fn.name == "runtime.NumGoroutine") = false ∧ ∀ n, CallsIn Fence.wide n P g as w fun e w' => ∃ cv ρ', e = .returned cv ∧ VR ρ' (resV vs) cv ∧ Rel P B w0 ρ' H' w' ∧ St ρ H w ρ' H' w' := by
  unfold compF at hF
  split at hF
  · rename_i fn hfn
    split at hF
    · rename_i c hc
      split at hF
      · rename_i b r hb hres
        split at hF
        · cases hF
        · rename_i hname
          simp only [Option.some.injEq] at hF; subst hF
          refine ⟨fn, hfn, by rw [hc]; rfl, by simpa using hname, fun n => ?_⟩
          refine callsIn_of_wp_marks hfn hc trivial ?_
          have hctl := execB_ok (n := n) hcall hm w.heap.size lf hb
          refine hctl _ _ _ _ _ _ _ _ _ _ _ hR (args_ok ha fn.ntmps) (MK.nil _ _ _) (Nat.le_refl _) h _ fun ρ' w' tmps' ds' k1 k2 k3 k4 => ?_
          obtain ⟨Ds, rfl, hnd, hD⟩ := k4
          have hBw : B ≤ w.heap.size := Nat.le_trans hR.hB hR.below.size
          have hgo : LeavesInM Fence.wide n P fn tmps' (fun e w' => ∃ cv ρ', e = .returned cv ∧ VR ρ' (resV vs) cv ∧ Rel P B w0 ρ' H' w' ∧ St ρ H w ρ' H' w') (Ds.map mark) .returning w' := by
            refine leaves_ok hBw Ds w' k1 k3 hnd hD fun w'' q1 q2 => ?_
            obtain ⟨c, hc, hv⟩ := results_ok q1 k2 hres hr
            exact ⟨c, hc, c, ρ', rfl, hv, q1, q2⟩
          rcases he with rfl | rfl <;> exact hgo
      · cases hF
    · cases hF
  · cases hF

theorem fin_ok {R : Ending → World → Prop} {l : Nat} {e : XExit} {a : Act} (hl : ∃ r, w.heap[l]? = some (.loop r) ∧ R (.returned (.bool (xcode e).isNone)) (w.putObj l (.loop { r with state := if (xcode e).isNone then .ready else .done, pending := xcode e }))) :
    roundPost P l R (toX e) a w := by
  obtain ⟨r, hr, hR⟩ := hl
  cases e with
  | norm => exact ⟨_, _, run_endRound none hr, hR⟩
  | ret => exact ⟨_, _, run_endRound (some .ret) hr, hR⟩
  | exit id => exact ⟨_, _, run_endRound (some (.exit id)) hr, hR⟩

theorem exec_ok {tab : Nat → Option XFun} {sp : Nat → List AV → AH → Option (AV × AH)} (hm : P.follows .mixedOrders = true) (htab : TabOK P tab) (hsp : SpOK P tab sp) : ∀ k, CallOK P (exec tab sp k)
  | 0 => fun f args H v H' h => by simp [exec] at h
  | k + 1 => by
    intro f args H v H' h B w0 ρ w fv as hR hf ha
    have ih := exec_ok hm htab hsp k
    simp only [exec] at h
    split at h
    · rename_i g first cap
      simp only [VR] at hf
      obtain ⟨f2, a2, b2, rfl, hf2, ha2, hb2⟩ := hf
      simp only [FR] at hf2; subst hf2
      have hargs : VRL ρ (first ++ args ++ cap) (a2 ++ as ++ b2).toList := by
        simp only [Array.toList_append]; exact VRL_append (VRL_append ha2 ha) hb2
      left
      split at h
      · rename_i F hF
        split at h
        · rename_i T' H1 h1
          simp only [Option.map_eq_some_iff, Prod.mk.injEq] at h
          obtain ⟨vs, hvs, rfl, rfl⟩ := h
          obtain ⟨fn, h1, h2, h3, h4⟩ := fun_ok ih hm (htab _ _ hF) h1 (.inl rfl) hvs hR hargs
          exact ⟨g, a2, b2, fn, rfl, h1, h2, h3, h4⟩
        · rename_i T' H1 h1
          simp only [Option.map_eq_some_iff, Prod.mk.injEq] at h
          obtain ⟨vs, hvs, rfl, rfl⟩ := h
          obtain ⟨fn, h1, h2, h3, h4⟩ := fun_ok ih hm (htab _ _ hF) h1 (.inr rfl) hvs hR hargs
          exact ⟨g, a2, b2, fn, rfl, h1, h2, h3, h4⟩
        · cases h
      · rename_i hn
        obtain ⟨fn, h1, h2, h3, h4⟩ := hsp g _ H v H' hn h B w0 ρ w _ hR hargs
        exact ⟨g, a2, b2, fn, rfl, h1, h2, h3, h4⟩
    · rename_i l
      simp only [VR] at hf
      obtain ⟨f2, a2, b2, rfl, hf2, ha2, hb2⟩ := hf
      rw [VRL_nil_iff] at ha2 hb2
      have ha2' : a2 = #[] := by simpa using ha2
      have hb2' : b2 = #[] := by simpa using hb2
      subst ha2' hb2'
      simp only [FR] at hf2
      obtain ⟨k0, o0, s0, hl, rfl⟩ := hf2
      split at h
      · rename_i pend ps asg body T hH
        split at h
        · rename_i hps
          split at h
          · rename_i T1 H1 h1
            split at h
            · rename_i p1 q1 a1 b1 T0 hH1
              split at h
              · rename_i e T2 H2 h2
                split at h
                · rename_i p2 q2 a2 b2 T3 hH2
                  simp only [Option.some.injEq, Prod.mk.injEq] at h
                  obtain ⟨rfl, rfl⟩ := h
                  obtain ⟨k', o', s', r, N, e1, e2, e3, e4, e5, e6, e7, e8, e9, e10, e11⟩ := hR.blk _ _ hH
                  rw [hl] at e1; cases e1
                  simp only [Bool.and_eq_true] at e10
                  right
                  have hsz : as.size = r.params.size := by
                    have := VRL_len ha
                    rw [← Array.length_toList, ← this, ← hps, ← e6, Array.length_toList]
                  refine ⟨k0, r.fn, _, r.assign, r.body, rfl, run_yield e2 hsz, fun n => ?_⟩
                  refine roundIn_of_wpIn (F := Fence.wide) trivial ?_
                  have hTp : TR ρ N (setParams T ps args) ((r.params.zip as).foldl (fun tmps (t, a) => tmps.setIfInBounds t a) r.tmps) := by
                    have := setParams_ok ps args as.toList T r.tmps e11 e7 ha
                    rw [← e6, ← Array.toList_zip, Array.foldl_toList, e6] at this
                    exact this
                  refine execC_ok (ro := some k0) (n := n) ih hm w.heap.size k r.assign asg e8 (.inr e10.1) _ _ _ _ _ _ _ _ _ _ _ hR hTp (MK.nil _ _ _) (Nat.le_refl _) h1 _ fun ρ1 w1 tmps1 ds1 c1 c2 c3 c4 => ?_
                  obtain ⟨k', o', s', r1, N1, f1, f2, f3, f4, f5, f6, f7, f8, f9, f10, f11⟩ := c1.blk _ _ hH1
                  rw [c3.ext _ _ hl] at f1; cases f1
                  refine ⟨_, run_beginRound f2 f4, ?_⟩
                  obtain ⟨d1, d2⟩ := c1.put hH1 rfl (c3.ext _ _ hl) (x := .loop { r1 with state := .busy }) (b' := .loop .busy p1 q1 a1 b1 T0) ⟨k0, o0, s0, _, N1, c3.ext _ _ hl, put_same f2, f3, rfl, f5, f6, f7, f8, f9, f10, f11⟩
                  refine execC_ok (ro := some k0) (n := n) ih hm w.heap.size k r.body body e9 (.inr e10.2) _ _ _ _ _ _ _ _ _ _ _ d1 c2 (c4.step d2) (Nat.le_trans c3.size d2.size) h2 _ fun ρ2 w2 tmps2 ds2 g1 g2 g3 g4 => ?_
                  have hl2 : ρ2 l = some (k0, o0, s0) := g3.ext _ _ (d2.ext _ _ (c3.ext _ _ hl))
                  obtain ⟨k', o', s', r2, N2, f1', f2', f3', f4', f5', f6', f7', f8', f9', f10', f11'⟩ := g1.blk _ _ hH2
                  rw [hl2] at f1'; cases f1'
                  refine fin_ok ⟨r2, f2', _, ρ2, rfl, ?_, ?_⟩
                  · cases e <;> simp [VR, xcode]
                  · have := g1.put hH2 rfl hl2 (x := .loop { r2 with state := if (xcode e).isNone then .ready else .done, pending := xcode e }) (b' := .loop (if e = .norm then .ready else .done) (if e = .norm then none else some e) q2 a2 b2 T3)
                      ⟨k0, o0, s0, _, N2, hl2, put_same f2', f3', by cases e <;> simp [xcode], by cases e <;> simp [xcode], f6', f7', f8', f9', f10', f11'⟩
                    exact ⟨this.1, (c3.trans d2).trans (g3.trans this.2)⟩
                · cases h
              · cases h
            · cases h
          · cases h
        · cases h
      · cases h
    · cases h
end
end Go.Proofs.Ytjheedfobmlalaa.E
