/- Loops over maps: the evaluator's states for every order; heaps with less told; functions that are told by a relation. It bears no condition. -/
import Derived.Test.YtjheedfobmlalaaE47
import Derived.Test.YtjheedfobmlalaaE26
namespace Go.Proofs.Ytjheedfobmlalaa.E
open Go.RowKit (Below)
set_option linter.unusedVariables false
set_option linter.unusedSimpArgs false
section
variable {P : Program} {B : Nat} {w0 w : World} {ρ : Rho} {H : AH} {N : Nat} {T : Tm} {tmps : Array Value} {ds : List Deferred} {ro : Option Nat} {n : Nat}

/-- A heap that tells less. -/
theorem Rel.forget {H3 : AH} (hR : Rel P B w0 ρ H w) (h : ∀ n b, H3.get n = some b → H.get n = some b) (hn : H.next ≤ H3.next) : Rel P B w0 ρ H3 w :=
  ⟨hR.hB, hR.below, fun n hn' => hR.dom n (by omega), hR.glob, fun n b e => hR.blk n b (h n b e), hR.lt, fun n b m c k o s k' o' s' e1 e2 => hR.mu n b m c k o s k' o' s' (h _ _ e1) (h _ _ e2)⟩
theorem St.forget {ρ0 : Rho} {H0 H3 : AH} {w1 : World} (hS : St ρ0 H0 w1 ρ H w) (h : ∀ n, H0.Un n → H3.get n = none) (hn : H0.next ≤ H3.next) : St ρ0 H0 w1 ρ H3 w :=
  ⟨hS.ext, hS.size, hn, hS.same, hS.new, h, hS.fresh⟩

/-! ### Every order -/
section
variable (tab : Nat → Option XFun) (sp : Nat → List AV → AH → Option (AV × AH)) (l2 : List XOper) (xb : XC) (tI tN tB tE nm m since cl : Nat) (PF : Nat → Nat → Tm → AH → Prop)
def mov (T : Tm) : Tm := (T.set tN (.tup [.b false])).set tB (.b false)
def mst (T : Tm) (x : AV × AV × Nat) : Tm := ((T.set tN (.tup [.b true, x.1, x.2.1])).set tB (.b true)).set tE (.tup [x.1, x.2.1])
def Basic (T : Tm) (H : AH) (es : List (AV × AV × Nat)) : Prop := T.get tI = .p (some (nm, 0)) ∧ H.get m = some (.map es cl) ∧ (∀ x ∈ es, x.2.2 < since) ∧ (es.map (·.2.2)).Nodup
def FinP (K C : Nat) : Nat → Array Nat → Tm → AH → Prop
  | 0, seen, T, H => ∃ es, Basic tI nm m since cl T H es ∧ (∀ x ∈ es, x.2.2 ∈ seen.toList) ∧ PF K C (mov tN tB T) H
  | k + 1, seen, T, H => ∃ es, Basic tI nm m since cl T H es ∧ ((∀ x ∈ es, x.2.2 ∈ seen.toList) → PF K C (mov tN tB T) H) ∧
    ∀ x ∈ es, x.2.2 ∉ seen.toList → ∃ T' H', execC (exec tab sp K) K (.seq (.region l2) xb) (mst tN tB tE T x) H = some (.norm, T', H') ∧ FinP K C k (seen.push x.2.2) T' H'
def Inf (Φ : Nat → Nat → Prop) : Prop := ∃ K C, ∀ K' ≥ K, ∀ C' ≥ C, Φ K' C'
end
theorem Inf.all {α : Type} {Φ : α → Nat → Nat → Prop} : ∀ (l : List α), (∀ x ∈ l, Inf (Φ x)) → Inf (fun K C => ∀ x ∈ l, Φ x K C)
  | [], _ => ⟨0, 0, fun _ _ _ _ x hx => by simp at hx⟩
  | a :: l, h => by
    obtain ⟨K1, C1, h1⟩ := h a (List.mem_cons_self ..)
    obtain ⟨K2, C2, h2⟩ := Inf.all l fun x hx => h x (List.mem_cons_of_mem _ hx)
    refine ⟨max K1 K2, max C1 C2, fun K' hK C' hC x hx => ?_⟩
    rcases List.mem_cons.1 hx with rfl | hx
    · exact h1 K' (by omega) C' (by omega)
    · exact h2 K' (by omega) C' (by omega) x hx
theorem Inf.and {Φ Ψ : Nat → Nat → Prop} (h : Inf Φ) (k : Inf Ψ) : Inf (fun K C => Φ K C ∧ Ψ K C) := by
  obtain ⟨K1, C1, h1⟩ := h
  obtain ⟨K2, C2, h2⟩ := k
  exact ⟨max K1 K2, max C1 C2, fun K' hK C' hC => ⟨h1 K' (by omega) C' (by omega), h2 K' (by omega) C' (by omega)⟩⟩
theorem Inf.imp {Φ Ψ : Nat → Nat → Prop} (h : Inf Φ) (k : ∀ K C, Φ K C → Ψ K C) : Inf Ψ := by
  obtain ⟨K1, C1, h1⟩ := h
  exact ⟨K1, C1, fun K' hK C' hC => k _ _ (h1 K' hK C' hC)⟩
section
variable {tab : Nat → Option XFun} {sp : Nat → List AV → AH → Option (AV × AH)} {l2 : List XOper} {xb : XC} {tI tN tB tE nm m since cl : Nat} {PF : Nat → Nat → Tm → AH → Prop}
theorem Inf.run {c : XC} {T : Tm} {H : AH} {Q : XExit → Tm → AH → Prop} (h : C tab sp c T H Q) : Inf (fun K _ => ∃ e T' T2 H', execC (exec tab sp K) K c T H = some (e, T', H') ∧ TE T' T2 ∧ Q e T2 H') := by
  obtain ⟨k, e, T', H', T2, h1, h2, h3⟩ := h T (fun _ => rfl)
  exact ⟨k, 0, fun K hK _ _ => ⟨e, T', T2, H', execC_mono (exec_mono hK) hK c h1, h2, h3⟩⟩
/-- An invariant of the evaluator's states gives all orders at once. -/
theorem fin_inf {Inv : Nat → Array Nat → Tm → AH → Prop} (hte : ∀ k seen T T' H, Inv k seen T H → TE T' T → Inv k seen T' H)
    (hInv : ∀ k seen T H, Inv k seen T H → ∃ es, Basic tI nm m since cl T H es ∧ (k = 0 → ∀ x ∈ es, x.2.2 ∈ seen.toList) ∧ ((∀ x ∈ es, x.2.2 ∈ seen.toList) → Inf fun K C => PF K C (mov tN tB T) H) ∧
      ∀ x ∈ es, x.2.2 ∉ seen.toList → C tab sp (.seq (.region l2) xb) (mst tN tB tE T x) H (fun e T' H' => e = .norm ∧ Inv (k - 1) (seen.push x.2.2) T' H')) :
    ∀ (k : Nat) (seen : Array Nat) (T : Tm) (H : AH), Inv k seen T H → Inf fun K C => FinP tab sp l2 xb tI tN tB tE nm m since cl PF K C k seen T H
  | 0, seen, T, H, h => by
    obtain ⟨es, h1, h2, h3, h4⟩ := hInv _ _ _ _ h
    exact (h3 (h2 rfl)).imp fun K C h => ⟨es, h1, h2 rfl, h⟩
  | k + 1, seen, T, H, h => by
    obtain ⟨es, h1, h2, h3, h4⟩ := hInv _ _ _ _ h
    have a : Inf fun K C => (∀ x ∈ es, x.2.2 ∈ seen.toList) → PF K C (mov tN tB T) H := by
      rcases Classical.em (∀ x ∈ es, x.2.2 ∈ seen.toList) with he | he
      · exact (h3 he).imp fun K C h _ => h
      · exact ⟨0, 0, fun _ _ _ _ h => absurd h he⟩
    have b : Inf fun K C => ∀ x ∈ es, x.2.2 ∉ seen.toList → ∃ T' H', execC (exec tab sp K) K (.seq (.region l2) xb) (mst tN tB tE T x) H = some (.norm, T', H') ∧ FinP tab sp l2 xb tI tN tB tE nm m since cl PF K C k (seen.push x.2.2) T' H' := by
      refine Inf.all es fun x hx => ?_
      rcases Classical.em (x.2.2 ∈ seen.toList) with he | he
      · exact ⟨0, 0, fun _ _ _ _ h => absurd he h⟩
      · obtain ⟨k0, e, T', H', T2, g1, g2, rfl, g3⟩ := h4 x hx he _ (fun _ => rfl)
        have g4 := hte _ _ _ T' _ g3 g2
        obtain ⟨K1, C1, g5⟩ := fin_inf hte hInv k _ _ _ g4
        exact ⟨max k0 K1, C1, fun K hK C hC _ => ⟨T', H', execC_mono (exec_mono (by omega)) (by omega) _ g1, g5 K (by omega) C hC⟩⟩
    exact (a.and b).imp fun K C h => ⟨es, h1, h.1, h.2⟩
theorem fin_map {K C : Nat} : ∀ (k : Nat) (seen : Array Nat) (T : Tm) (H : AH), FinP tab sp l2 xb tI tN tB tE nm m since cl PF K C k seen T H → ∃ es, MapInv (exec tab sp K) K l2 xb tI tN tB tE nm m since cl (FinP tab sp l2 xb tI tN tB tE nm m since cl PF K C) (PF K C) k seen T H es
  | 0, seen, T, H, h => by
    obtain ⟨es, h1, h2, h3⟩ := h
    exact ⟨es, h1.1, h1.2.1, h1.2.2.1, h1.2.2.2, fun _ => h2, fun x hx hn => absurd (h2 x hx) hn, fun _ => h3⟩
  | k + 1, seen, T, H, h => by
    obtain ⟨es, h1, h2, h3⟩ := h
    refine ⟨es, h1.1, h1.2.1, h1.2.2.1, h1.2.2.2, (fun h => by omega), fun x hx hn => ?_, h2⟩
    obtain ⟨T', H', g1, g2⟩ := h3 x hx hn
    simp only [execC] at g1
    cases hr : runOps (exec tab sp K) l2 (mst tN tB tE T x) H with
    | none => rw [hr] at g1; simp at g1
    | some r => rw [hr] at g1; exact ⟨r.1, r.2, T', H', hr, g1, g2⟩
end

/-! ### A loop over a map -/
theorem range_ok (hR : Rel P B w0 ρ H w) {m cl : Nat} {es : List (AV × AV × Nat)} (hm : H.get m = some (.map es cl)) {t kt et : TypeId} (ht : P.underlying t = some (.map kt et)) {v : Value} (hv : VR ρ (.m (some m)) v) :
    ∃ w1 ρ1, (Instr.range t v).run P w = .ok (.pointer (some ⟨w.heap.size, 0, none⟩)) w1 ∧ Rel P B w0 ρ1 { H with next := H.next + 1 } w1 ∧ St ρ H w ρ1 { H with next := H.next + 1 } w1 ∧
      IT ρ1 { H with next := H.next + 1 } w1 H.next w.heap.size m cl #[] cl ∧ VR ρ1 (.p (some (H.next, 0))) (.pointer (some ⟨w.heap.size, 0, none⟩)) := by
  obtain ⟨k, o, s, es', hk, hb, _, he⟩ := hR.blk _ _ hm
  simp only [VR] at hv
  obtain ⟨k', o', s', hk', rfl⟩ := hv
  rw [hk] at hk'; cases hk'
  have hno : ρ H.next = none := hR.dom _ (Nat.le_refl _)
  have hnone : H.get H.next = none := by
    cases hg : H.get H.next with
    | none => rfl
    | some b =>
      obtain ⟨k, o, s, e⟩ := (hR.blk _ _ hg).name
      rw [hno] at e; cases e
  obtain ⟨r1, s1⟩ := hR.reserve 1
  have hu : AH.Un { H with next := H.next + 1 } H.next := ⟨Nat.lt_succ_self _, hnone⟩
  have hE : Ext ρ (ρ.upd H.next (w.heap.size, 0, 0)) := Rho.upd_ext hno
  refine ⟨w.alloc (.mapIter (some k) cl #[] cl), ρ.upd H.next (w.heap.size, 0, 0), run_range_map w t kt et k es' cl ht hb, r1.name hno hu (.mapIter (some k) cl #[] cl) w.drawn 0, ?_, ⟨Rho.upd_same, hu, fun n' o s e => ?_, k, o, s, hE _ _ hk, ?_⟩, ?_⟩
  · exact St.name (n := H.next) s1 (Nat.le_refl _) hno (.mapIter (some k) cl #[] cl) w.drawn 0
  · unfold Rho.upd at e
    split at e
    · rename_i h; exact h
    · have := hR.lt _ _ _ _ e; omega
  · exact heap_alloc_new w _
  · simp only [VR]; exact ⟨_, _, _, Rho.upd_same, by simp⟩

section
variable {tab : Nat → Option XFun} {sp : Nat → List AV → AH → Option (AV × AH)} {id id2 i0 i1 i2 tI tN tB tE tM K C m cl k0 : Nat} {R0 R1 R2 : Array Oper} {is0 is : List Nat} {j : Nat} {body : Code} {l0 l2 : List XOper} {xb : XC} {PF : Nat → Nat → Tm → AH → Prop} {es : List (AV × AV × Nat)} {t kt et : TypeId} {T1 : Tm}
/-- 'range m', and the loop. -/
theorem range_loop (hcall : CallOK P (exec tab sp K)) (hmx : P.follows .mixedOrders = true) (hro : ro = none ∨ xb.flat = true)
    (hz0 : List.range R0.size = is0 ++ [j]) (hl0 : cOpers P N R0 (fun _ => []) is0 = some l0) (hj : (R0[j]?).map (fun o => (o.dst, o.op, o.guard)) = some (some tI, .range t (.tmp tM), none)) (ht : P.underlying t = some (.map kt et))
    (hR1 : R1.toList.map (fun o => (o.dst, o.op, o.guard)) = [(some tN, .next (.tmp tI) false, none), (some tB, .extract (.tmp tN) 0, none)])
    (hR2 : (R2[0]?).map (fun o => (o.dst, o.op, o.guard)) = some (some tE, .entry (.tmp tI), none)) (hsz : List.range R2.size = 0 :: is) (hl2 : cOpers P N R2 (fun _ => []) is = some l2) (hb : comp P N body = some xb) (hlt : tI < N ∧ tN < N ∧ tB < N ∧ tE < N) (hne : tN ≠ tI ∧ tB ≠ tI)
    (hr0 : runOps (exec tab sp K) l0 T H = some (T1, H)) (hM1 : T1.get tM = .m (some m)) (hm : H.get m = some (.map es cl))
    (hF : FinP tab sp l2 xb tI tN tB tE H.next m cl cl PF K C k0 #[] (T1.set tI (.p (some (H.next, 0)))) { H with next := H.next + 1 })
    (hR : Rel P B w0 ρ H w) (hT : TR ρ N T tmps) {b0 : Nat} (hM : MK b0 ρ w ds) (hb0 : b0 ≤ w.heap.size)
    {Q : Exit → Act → World → Prop} (hQ : ∀ T' H' ρ' w' tmps' ds', PF K C T' H' → Rel P B w0 ρ' H' w' → TR ρ' N T' tmps' → MK b0 ρ' w' ds' → St ρ H w ρ' H' w' → Q .normal ⟨tmps', ds'⟩ w') :
    (Code.seq (.region i0 R0 false) (.block id (.loop (.seq (.region i1 R1 false) (.seq (.cond (.tmp tB) .skip (.exit id)) (.block id2 (.seq (.region i2 R2 false) body))))))).wpIn (Fw ro) n P Q ⟨tmps, ds⟩ w := by
  refine wpIn_seq (wpIn_region ?_)
  rw [hz0]
  refine runOps_then hcall is0 l0 hl0 hR hT hr0 _ fun ρ0 w00 tm0 a1 a2 a3 => ?_
  have hv := a2.2 tM
  rw [hM1] at hv
  obtain ⟨w1, ρ1, hrun, q1, q2, q3, q4⟩ := range_ok a1 hm ht hv
  refine op_by hj (by intro c h; cases h) (c := .pointer (some ⟨w00.heap.size, 0, none⟩)) (w' := w1) (fun o ho => ?_) hlt.1 ?_
  · have hrun' : (Instr.range t (Act.eval ⟨tm0, ds⟩ (.tmp tM))).run P w00 = _ := hrun
    simp only [execOp, ho, map_eq_pure_bind, Sem.run_bind, hrun', Result.andThen_ok, Sem.run_pure]
  have t1 := (TR_mono q2.ext a2).put (d := some tI) (by simpa using hlt.1) q4 ds
  show (Code.block id _).wpIn (Fw ro) n P _ _ w1
  have hBw : B ≤ w.heap.size := Nat.le_trans hR.hB hR.below.size
  refine wpIn_block (wpIn_loop_rounds (k0 + 1) (mapRounds (Post := PF K C) (Inv := FinP tab sp l2 xb tI tN tB tE H.next m cl cl PF K C) hcall hmx hro hR1 hR2 hsz hl2 hb hlt hne hBw a3.size hb0 (Nat.le_refl _) (fun k seen T H h => fin_map k seen T H h) (fun T' H' ρ' w' t' d' h1 h2 h3 h4 h5 => ?_) k0 hF (Nat.le_refl _) q1 t1 ((hM.step a3).step q2) (a3.trans q2) q3))
  show Exit.inBlock id Q (.exit id) _ _
  simp only [Exit.inBlock, if_true]
  exact hQ T' H' ρ' w' t' d' h1 h2 h3 h4 h5
end

/-! ### Functions that are told by a relation -/
def SPk (P : Program) (g : Nat) (args : List AV) (H : AH) (v : AV) (H' : AH) : Prop := ∀ B w0 ρ w as, Rel P B w0 ρ H w → VRL ρ args as.toList →
  ∃ fn, P.funcs[g]? = some fn ∧ fn.body.isSome = true ∧ (fn.name == "runtime.NumGoroutine") = false ∧ ∀ n, CallsIn Fence.wide n P g as w fun e w' => ∃ cv ρ', e = .returned cv ∧ VR ρ' v cv ∧ Rel P B w0 ρ' H' w' ∧ St ρ H w ρ' H' w'
open Classical in
noncomputable def spC (P : Program) (R : Nat → List AV → AH → AV → AH → Prop) : Nat → List AV → AH → Option (AV × AH) := fun g args H =>
  if h : ∃ p : AV × AH, R g args H p.1 p.2 ∧ SPk P g args H p.1 p.2 then some h.choose else none
theorem spC_ok {tab : Nat → Option XFun} {R : Nat → List AV → AH → AV → AH → Prop} : SpOK P tab (spC P R) := by
  intro g args H v H' _ h
  unfold spC at h
  split at h
  · rename_i hx
    have := hx.choose_spec.2
    simp only [Option.some.injEq] at h
    rw [h] at this
    exact this
  · cases h
theorem spC_ev {tab : Nat → Option XFun} {R : Nat → List AV → AH → AV → AH → Prop} {g : Nat} {args : List AV} (ht : tab g = none) (h : ∃ v H', R g args H v H' ∧ SPk P g args H v H') : Ev tab (spC P R) (.fn (.func g) [] []) args H (fun v H' => R g args H v H') := by
  obtain ⟨v, H', h⟩ := h
  have hx : ∃ p : AV × AH, R g args H p.1 p.2 ∧ SPk P g args H p.1 p.2 := ⟨(v, H'), h⟩
  refine ⟨1, hx.choose.1, hx.choose.2, ?_, hx.choose_spec.1⟩
  simp only [exec, ht, List.nil_append, List.append_nil]
  unfold spC
  rw [dif_pos hx]
end
end Go.Proofs.Ytjheedfobmlalaa.E
