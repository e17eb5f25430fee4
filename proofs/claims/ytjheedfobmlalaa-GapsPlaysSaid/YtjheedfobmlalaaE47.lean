/- Loops over maps: whichever entry comes next. Heaps with less told. It bears no condition. -/
import Derived.Test.YtjheedfobmlalaaE20
import Derived.Maps.RangeRun
namespace Go.Proofs.Ytjheedfobmlalaa.E
open Go.RowKit (Below)
open Go.ChangeMaps (setBlock)
set_option linter.unusedVariables false
set_option linter.unusedSimpArgs false
section
variable {P : Program} {B : Nat} {w0 w : World} {ρ : Rho} {H : AH} {N : Nat} {T : Tm} {tmps : Array Value} {ds : List Deferred} {ro : Option Nat} {n : Nat}

/-- Operations one after another, and more behind them. -/
theorem runOps_then {call : CallF} (hcall : CallOK P call) {ops : Array Oper} {bef : Nat → List Nat} {rest : List Nat} : ∀ (is : List Nat) (l : List XOper), cOpers P N ops bef is = some l → ∀ {T T' : Tm} {H H' : AH} {ρ : Rho} {w : World} {tmps : Array Value},
    Rel P B w0 ρ H w → TR ρ N T tmps → runOps call l T H = some (T', H') → ∀ (Q : Exit → Act → World → Prop), (∀ ρ' w' tmps', Rel P B w0 ρ' H' w' → TR ρ' N T' tmps' → St ρ H w ρ' H' w' → wpOpsIn (Fw ro) n P ops Q rest ⟨tmps', ds⟩ w') →
    wpOpsIn (Fw ro) n P ops Q (is ++ rest) ⟨tmps, ds⟩ w
  | [], l, hc, T, T', H, H', ρ, w, tmps, hR, hT, h, Q, hQ => by
    simp [cOpers] at hc; subst hc
    simp [runOps] at h
    obtain ⟨rfl, rfl⟩ := h
    exact hQ ρ w tmps hR hT (St.refl ρ H w)
  | i :: is, l, hc, T, T', H, H', ρ, w, tmps, hR, hT, h, Q, hQ => by
    simp only [cOpers] at hc
    split at hc
    · rename_i o ho
      split at hc
      · rename_i g l' hg hl
        split at hc
        · rename_i hd
          simp only [Option.some.injEq] at hc; subst hc
          simp only [List.cons_append, wpOpsIn, ho]
          simp only [runOps] at h
          rw [wanted_ok hT hg (x := ⟨o.dst, cOpD P o.op, g, i, bef i⟩) rfl]
          split at h
          · rename_i hw
            rw [if_pos hw]
            split at h
            · rename_i v H1 hrun
              refine op_ok hcall hR hT hrun _ _ fun cv w' ρ' h1 h2 h3 => ?_
              have := (TR_mono h3.ext hT).put (ds := ds) hd h1
              have hput : ({ tmps := tmps, defers := ds } : Act).put o.dst cv = ⟨(({ tmps := tmps, defers := ds } : Act).put o.dst cv).tmps, ds⟩ := by cases o.dst <;> rfl
              rw [hput]
              exact runOps_then hcall is l' hl h2 this h Q fun ρ'' w'' t'' k1 k2 k3 => hQ ρ'' w'' t'' k1 k2 (h3.trans k3)
            · cases h
          · rename_i hw
            rw [if_neg hw]
            refine ⟨fun _ _ => trivial, ?_⟩
            have := hT.put (ds := ds) hd (VR_und (ρ := ρ))
            have hput : ({ tmps := tmps, defers := ds } : Act).put o.dst undef = ⟨(({ tmps := tmps, defers := ds } : Act).put o.dst undef).tmps, ds⟩ := by cases o.dst <;> rfl
            rw [hput]
            exact runOps_then hcall is l' hl hR this h Q hQ
        · cases hc
      · cases hc
    · cases hc
/-- An operation whose value is told by hand. -/
theorem op_by {ops : Array Oper} {i d : Nat} {q : Op} {rest : List Nat} {Q : Exit → Act → World → Prop} (ho : (ops[i]?).map (fun o => (o.dst, o.op, o.guard)) = some (some d, q, none)) (hq : ∀ c, q ≠ .defer c) {c : Value} {w' : World}
    (hr : ∀ o, o.op = q → (execOp (Act.eval ⟨tmps, ds⟩) o).run P w = .ok (.value c) w') (hd : d < N) (k : wpOpsIn (Fw ro) n P ops Q rest ⟨(Act.put ⟨tmps, ds⟩ (some d) c).tmps, ds⟩ w') : wpOpsIn (Fw ro) n P ops Q (i :: rest) ⟨tmps, ds⟩ w := by
  cases hi : ops[i]? with
  | none => rw [hi] at ho; simp at ho
  | some o =>
    rw [hi] at ho
    simp only [Option.map_some, Option.some.injEq, Prod.mk.injEq] at ho
    obtain ⟨h1, h2, h3⟩ := ho
    simp only [wpOpsIn, hi]
    have hw : Region.wanted o (yielded ops tmps) = true := by unfold Region.wanted; rw [h3]
    rw [if_pos hw]
    refine ⟨fun _ _ => trivial, ?_⟩
    rw [Oper.semAt_eq _ _ _ (fun c => by rw [h2]; exact hq c), hr o h2, Oper.uponIn_value, h1]
    exact k

theorem entR_mem {ρ : Rho} : ∀ {es : List (AV × AV × Nat)} {l : List MapEntry}, entR ρ es l → ∀ y ∈ l, ∃ x ∈ es, VR ρ x.1 y.key ∧ VR ρ x.2.1 y.val ∧ x.2.2 = y.born
  | [], _, h, y, hy => by simp only [entR] at h; subst h; simp at hy
  | x :: xs, _, h, y, hy => by
    simp only [entR] at h
    obtain ⟨y0, ys, rfl, h1, h2, h3, h4⟩ := h
    rcases List.mem_cons.1 hy with rfl | hy
    · exact ⟨x, List.mem_cons_self .., h1, h2, h3⟩
    · obtain ⟨x', hx, h⟩ := entR_mem h4 y hy
      exact ⟨x', List.mem_cons_of_mem _ hx, h⟩
theorem entR_mem' {ρ : Rho} : ∀ {es : List (AV × AV × Nat)} {l : List MapEntry}, entR ρ es l → ∀ x ∈ es, ∃ y ∈ l, x.2.2 = y.born
  | [], _, h, x, hx => by simp at hx
  | x0 :: xs, _, h, x, hx => by
    simp only [entR] at h
    obtain ⟨y0, ys, rfl, h1, h2, h3, h4⟩ := h
    rcases List.mem_cons.1 hx with rfl | hx
    · exact ⟨y0, List.mem_cons_self .., h3⟩
    · obtain ⟨y', hy, h⟩ := entR_mem' h4 x hx
      exact ⟨y', List.mem_cons_of_mem _ hy, h⟩
theorem entR_born {ρ : Rho} : ∀ {es : List (AV × AV × Nat)} {l : List MapEntry}, entR ρ es l → es.map (·.2.2) = l.map (·.born)
  | [], _, h => by simp only [entR] at h; subst h; rfl
  | x0 :: xs, _, h => by
    simp only [entR] at h
    obtain ⟨y0, ys, rfl, h1, h2, h3, h4⟩ := h
    rw [List.map_cons, List.map_cons, h3, entR_born h4]

/-- An iterator over a map: its block r bears the name n alone, of which the heap tells nothing. -/
structure IT (ρ : Rho) (H : AH) (w : World) (n r m since : Nat) (seen : Array Nat) (c0 : Nat) : Prop where
  nm : ρ n = some (r, 0, 0)
  un : H.Un n
  uq : ∀ n' o s, ρ n' = some (r, o, s) → n' = n
  it : ∃ k o s, ρ m = some (k, o, s) ∧ w.heap[r]? = some (.mapIter (some k) since seen c0)

theorem IT.step {H' : AH} {w' : World} {ρ' : Rho} {n r m since c0 : Nat} {seen : Array Nat} (h : IT ρ H w n r m since seen c0) (k : St ρ H w ρ' H' w') : IT ρ' H' w' n r m since seen c0 := by
  obtain ⟨b, o, s, h1, h2⟩ := h.it
  have hlt : r < w.heap.size := (Array.getElem?_eq_some_iff.1 h2).1
  refine ⟨k.ext _ _ h.nm, k.un h.un, fun n' o s e => ?_, b, o, s, k.ext _ _ h1, ?_⟩
  · rcases k.new n' r o s e hlt with e | ⟨m', o', s', e', hu⟩
    · exact h.uq _ _ _ e
    · have := h.uq _ _ _ e'; subst this; exact absurd h.un hu
  · rw [k.same r hlt fun n' o s e => by rw [h.uq _ _ _ e]; exact h.un]; exact h2

theorem Rel.unturn (hR : Rel P B w0 ρ H w) {n r m since c0 : Nat} {seen : Array Nat} (h : IT ρ H w n r m since seen c0) (hB : B ≤ r) (x : Obj) : Rel P B w0 ρ H (World.put w r x) := by
  refine ⟨hR.hB, ?_, hR.dom, hR.glob, fun n' b e => (hR.blk n' b e).keep (Ext.refl ρ) fun k' o' s' e' => put_other fun he => ?_, fun n k o s e => by rw [put_size]; exact hR.lt _ _ _ _ e, hR.mu⟩
  · exact hR.below.trans ⟨rfl, rfl, rfl, by rw [put_size]; exact Nat.le_refl _, fun j hj => put_other (by omega)⟩
  · subst he
    have := h.uq _ _ _ e'; subst this
    rw [h.un.2] at e; cases e
theorem MK.other {b0 : Nat} {w' : World} (h : MK b0 ρ w ds) (k : ∀ D : Nat, w.heap[D]? = some (Obj.deferred (some [])) → w'.heap[D]? = w.heap[D]?) : MK b0 ρ w' ds := by
  obtain ⟨Ds, rfl, hn, h⟩ := h
  exact ⟨Ds, rfl, hn, fun D hD => ⟨(h D hD).1, by rw [k D (h D hD).2.1]; exact (h D hD).2.1, (h D hD).2.2⟩⟩

/-- A step of a loop over a map. -/
theorem next_ok (hR : Rel P B w0 ρ H w) {nm r m since c0 cl : Nat} {seen : Array Nat} {es : List (AV × AV × Nat)} (hI : IT ρ H w nm r m since seen c0) (hB : B ≤ r) (hm : H.get m = some (.map es cl)) (hold : ∀ x ∈ es, x.2.2 < since) (hnd : (es.map (·.2.2)).Nodup) (hsc : since ≤ c0) :
    ((∀ x ∈ es, x.2.2 ∈ seen.toList) ∧ ∀ ty, (Instr.next (.pointer (some ⟨r, 0, none⟩)) false ty).run P w = .ok (.tuple #[.bool false]) w) ∨
    (∀ ty, ∃ x ∈ es, x.2.2 ∉ seen.toList ∧ ∃ w' key val, (Instr.next (.pointer (some ⟨r, 0, none⟩)) false ty).run P w = .ok (.tuple #[.bool true, key, val]) w' ∧ (Instr.entry (.pointer (some ⟨r, 0, none⟩))).run P w' = .ok (.tuple #[key, val]) w' ∧
      VR ρ x.1 key ∧ VR ρ x.2.1 val ∧ Rel P B w0 ρ H w' ∧ IT ρ H w' nm r m since (seen.push x.2.2) cl ∧ w'.heap.size = w.heap.size ∧ (∀ b, b ≠ r → w'.heap[b]? = w.heap[b]?) ∧
      ∀ ρb Hb wb, St ρb Hb wb ρ H w → wb.heap.size ≤ r → St ρb Hb wb ρ H w') := by
  obtain ⟨k, o, s, hk, hr⟩ := hI.it
  obtain ⟨k', o', s', es', hk', hb, _, he⟩ := hR.blk _ _ hm
  rw [hk] at hk'; cases hk'
  have hold' : ∀ x ∈ es'.toList, x.born < since := fun y hy => by
    obtain ⟨x, hx, _, _, e⟩ := entR_mem he y hy
    rw [← e]; exact hold x hx
  rcases Classical.em ((leftOf es' seen).size = 0) with h0 | h0
  · left
    refine ⟨fun x hx => ?_, fun ty => ?_⟩
    · obtain ⟨y, hy, e⟩ := entR_mem' he x hx
      rw [e]
      have : leftOf es' seen = #[] := Array.eq_empty_of_size_eq_zero h0
      unfold leftOf at this
      rw [Array.filter_eq_empty_iff] at this
      have := this y (by simpa using hy)
      simpa using this
    · rcases run_next_at (P := P) w ty r k since c0 seen es' cl hr hb hold' hsc with ⟨_, h⟩ | ⟨e, he', _⟩
      · exact h
      · have : leftOf es' seen = #[] := Array.eq_empty_of_size_eq_zero h0
        rw [this] at he'; simp at he'
  · right
    intro ty
    rcases run_next_at (P := P) w ty r k since c0 seen es' cl hr hb hold' hsc with ⟨h, _⟩ | ⟨e, he', w1, hal, hrun⟩
    · exact absurd h h0
    · have hin : e ∈ es'.toList ∧ e.born ∉ seen.toList := by
        unfold leftOf at he'
        simpa using he'
      obtain ⟨x, hx, v1, v2, hbn⟩ := entR_mem he e hin.1
      have hR1 : Rel P B w0 ρ H w1 := by rcases hal with rfl | rfl; exact hR; exact hR.drew _
      have hI1 : IT ρ H w1 nm r m since seen c0 := by rcases hal with rfl | rfl; exact hI; exact ⟨hI.nm, hI.un, hI.uq, hI.it⟩
      have hh : w1.heap = w.heap := by rcases hal with rfl | rfl <;> rfl
      have hr1 : w1.heap[r]? = some (.mapIter (some k) since seen c0) := by rw [hh]; exact hr
      have hkr : k ≠ r := fun e => by subst e; rw [hr] at hb; cases hb
      refine ⟨x, hx, by rw [hbn]; exact hin.2, World.put w1 r (.mapIter (some k) since (seen.push e.born) cl), e.key, e.val, hrun, ?_, v1, v2, hR1.unturn hI1 hB _, ⟨hI.nm, hI.un, hI.uq, k, o, s, hk, by rw [hbn]; exact put_same hr1⟩, by rw [put_size, hh], fun b hb' => by rw [put_other hb', hh], fun ρb Hb wb hS hle => ?_⟩
      · exact run_entry_at _ r k since seen es' cl e (put_same hr1) (by rw [put_other hkr, hh]; exact hb) hin.1 (by rw [← entR_born he]; exact hnd)
      · have : St ρb Hb wb ρ H w1 := by rcases hal with rfl | rfl; exact hS; exact hS.trans (St.drew ρ H w _)
        exact this.foreign hle _

/-- The loop's state, and what it comes to. -/
structure MapInv (call : CallF) (lf : Nat) (l2 : List XOper) (xb : XC) (tI tN tB tE nm m since cl : Nat) (Inv : Nat → Array Nat → Tm → AH → Prop) (Post : Tm → AH → Prop) (k : Nat) (seen : Array Nat) (T : Tm) (H : AH) (es : List (AV × AV × Nat)) : Prop where
  tI : T.get tI = .p (some (nm, 0))
  map : H.get m = some (.map es cl)
  old : ∀ x ∈ es, x.2.2 < since
  nodup : (es.map (·.2.2)).Nodup
  zero : k = 0 → ∀ x ∈ es, x.2.2 ∈ seen.toList
  round : ∀ x ∈ es, x.2.2 ∉ seen.toList → ∃ T2 H2 T' H', runOps call l2 (((T.set tN (.tup [.b true, x.1, x.2.1])).set tB (.b true)).set tE (.tup [x.1, x.2.1])) H = some (T2, H2) ∧ execC call lf xb T2 H2 = some (.norm, T', H') ∧ Inv (k - 1) (seen.push x.2.2) T' H'
  over : (∀ x ∈ es, x.2.2 ∈ seen.toList) → Post ((T.set tN (.tup [.b false])).set tB (.b false)) H

theorem VR_p_inv {a o : Nat} {c : Value} {k s : Nat} (h : VR ρ (.p (some (a, o))) c) (e : ρ a = some (k, 0, s)) : c = .pointer (some ⟨k, o, none⟩) := by
  simp only [VR] at h
  obtain ⟨k', o', s', e', rfl⟩ := h
  rw [e] at e'; cases e'
  simp

theorem VR_tup2 {x y : AV} {c d : Value} (h : VR ρ x c) (k : VR ρ y d) : VR ρ (.tup [x, y]) (.tuple #[c, d]) := by
  simp only [VR]; exact ⟨_, rfl, VRL_cons h (VRL_cons k VRL_nil)⟩
theorem VR_tup3 {x y z : AV} {c d e : Value} (h : VR ρ x c) (k : VR ρ y d) (l : VR ρ z e) : VR ρ (.tup [x, y, z]) (.tuple #[c, d, e]) := by
  simp only [VR]; exact ⟨_, rfl, VRL_cons h (VRL_cons k (VRL_cons l VRL_nil))⟩
theorem VR_tup1 {x : AV} {c : Value} (h : VR ρ x c) : VR ρ (.tup [x]) (.tuple #[c]) := by
  simp only [VR]; exact ⟨_, rfl, VRL_cons h VRL_nil⟩
theorem VR_bb (b : Bool) : VR ρ (.b b) (.bool b) := by simp only [VR]
theorem ev_put {d : Nat} {v : Value} (h : d < tmps.size) : Act.eval ⟨(Act.put ⟨tmps, ds⟩ (some d) v).tmps, ds⟩ (.tmp d) = v := by
  show (tmps.setIfInBounds d v).getD d undef = v
  simp [Array.getD, h]

section
variable {call : CallF} {id id2 i1 i2 tI tN tB tE lf b0 nm r m since cl : Nat} {R1 R2 : Array Oper} {is : List Nat} {body : Code} {l2 : List XOper} {xb : XC} {Inv : Nat → Array Nat → Tm → AH → Prop} {Post : Tm → AH → Prop} {ρb : Rho} {Hb : AH} {wb : World}
theorem mapRound (hcall : CallOK P call) (hmx : P.follows .mixedOrders = true) (hro : ro = none ∨ xb.flat = true)
    (hR1 : R1.toList.map (fun o => (o.dst, o.op, o.guard)) = [(some tN, .next (.tmp tI) false, none), (some tB, .extract (.tmp tN) 0, none)])
    (hR2 : (R2[0]?).map (fun o => (o.dst, o.op, o.guard)) = some (some tE, .entry (.tmp tI), none)) (hsz : List.range R2.size = 0 :: is) (hl2 : cOpers P N R2 (fun _ => []) is = some l2) (hb : comp P N body = some xb) (hlt : tI < N ∧ tN < N ∧ tB < N ∧ tE < N) (hne : tN ≠ tI ∧ tB ≠ tI)
    (hBb : B ≤ wb.heap.size) (hbr : wb.heap.size ≤ r) (hb0 : b0 ≤ wb.heap.size) {k c0 : Nat} {seen : Array Nat} {es : List (AV × AV × Nat)} (hv : MapInv call lf l2 xb tI tN tB tE nm m since cl Inv Post k seen T H es) (hsc : since ≤ c0) (hR : Rel P B w0 ρ H w) (hT : TR ρ N T tmps) (hM : MK b0 ρ w ds) (hS : St ρb Hb wb ρ H w) (hIT : IT ρ H w nm r m since seen c0)
    {Q : Exit → Act → World → Prop} (hQ : ∀ T' ρ' w' tmps' ds', Post T' H → Rel P B w0 ρ' H w' → TR ρ' N T' tmps' → MK b0 ρ' w' ds' → St ρb Hb wb ρ' H w' → Q (.exit id) ⟨tmps', ds'⟩ w')
    (hN : ∀ x T' H' ρ' w' tmps' ds', x ∈ es → x.2.2 ∉ seen.toList → Inv (k - 1) (seen.push x.2.2) T' H' → Rel P B w0 ρ' H' w' → TR ρ' N T' tmps' → MK b0 ρ' w' ds' → St ρb Hb wb ρ' H' w' → IT ρ' H' w' nm r m since (seen.push x.2.2) cl → Q .normal ⟨tmps', ds'⟩ w') :
    (Code.seq (.region i1 R1 false) (.seq (.cond (.tmp tB) .skip (.exit id)) (.block id2 (.seq (.region i2 R2 false) body)))).wpIn (Fw ro) n P Q ⟨tmps, ds⟩ w := by
  have o0 : (R1[0]?).map (fun o => (o.dst, o.op, o.guard)) = some (some tN, .next (.tmp tI) false, none) := by
    have := congrArg (fun l => l[0]?) hR1
    simpa using this
  have o1 : (R1[1]?).map (fun o => (o.dst, o.op, o.guard)) = some (some tB, .extract (.tmp tN) 0, none) := by
    have := congrArg (fun l => l[1]?) hR1
    simpa using this
  have hz1 : List.range R1.size = [0, 1] := by
    have := congrArg List.length hR1
    simp only [List.length_map, Array.length_toList, List.length_cons, List.length_nil] at this
    rw [this]; rfl
  refine wpIn_seq (wpIn_region ?_)
  rw [hz1]
  have hp : T.get tI = .p (some (nm, 0)) := hv.tI
  have evI : ∀ {T1 : Tm} {tmps1 : Array Value}, TR ρ N T1 tmps1 → T1.get tI = T.get tI → Act.eval ⟨tmps1, ds⟩ (.tmp tI) = .pointer (some ⟨r, 0, none⟩) := fun h e => by
    have := h.2 tI
    rw [e, hp] at this
    exact VR_p_inv this hIT.nm
  have e0 := evI hT rfl
  have hnN : tN < tmps.size := Nat.lt_of_lt_of_le hlt.2.1 hT.1
  have hBr : B ≤ r := Nat.le_trans hBb hbr
  rcases next_ok hR hIT hBr hv.map hv.old hv.nodup hsc with ⟨hall, hrun⟩ | hstep
  · refine op_by o0 (by intro c h; cases h) (c := .tuple #[.bool false]) (w' := w) (fun o ho => ?_) hlt.2.1 ?_
    · simp only [execOp, ho, e0, map_eq_pure_bind, Sem.run_bind, hrun, Result.andThen_ok, Sem.run_pure]
    have t1 := hT.put (d := some tN) (by simpa using hlt.2.1) (VR_tup1 (VR_bb false)) ds
    refine op_by o1 (by intro c h; cases h) (c := .bool false) (w' := w) (fun o ho => ?_) hlt.2.2.1 ?_
    · simp only [execOp, ho, ev_put hnN, Instr.extract, map_eq_pure_bind, Sem.run_bind, Result.andThen_ok, Sem.run_pure]
      rfl
    have t2 := t1.put (d := some tB) (by simpa using hlt.2.2.1) (VR_bb false) ds
    have hnB : tB < (Act.put ⟨tmps, ds⟩ (some tN) (.tuple #[.bool false])).tmps.size := Nat.lt_of_lt_of_le hlt.2.2.1 t1.1
    show (Code.seq (.cond (.tmp tB) .skip (.exit id)) _).wpIn (Fw ro) n P Q _ w
    refine wpIn_seq (wpIn_cond_false (ev_put hnB) (wpIn_exit ?_))
    exact hQ _ _ _ _ _ (hv.over hall) hR t2 hM hS
  · obtain ⟨x, hx, hns, w', key, val, hrun, hent, v1, v2, hR', hIT', hsz', hoth, hSt⟩ := hstep 0
    have hS' := hSt _ _ _ hS hbr
    have hM' : MK b0 ρ w' ds := hM.other fun D hD => hoth D fun e => by
      subst e
      obtain ⟨_, _, _, _, e⟩ := hIT.it
      rw [e] at hD; cases hD
    refine op_by o0 (by intro c h; cases h) (c := .tuple #[.bool true, key, val]) (w' := w') (fun o ho => ?_) hlt.2.1 ?_
    · have hrun' : (Instr.next (.pointer (some ⟨r, 0, none⟩)) false o.type).run P w = _ := hrun
      simp only [execOp, ho, e0, map_eq_pure_bind, Sem.run_bind, hrun', Result.andThen_ok, Sem.run_pure]
    have t1 := hT.put (d := some tN) (by simpa using hlt.2.1) (VR_tup3 (VR_bb true) v1 v2) ds
    refine op_by o1 (by intro c h; cases h) (c := .bool true) (w' := w') (fun o ho => ?_) hlt.2.2.1 ?_
    · simp only [execOp, ho, ev_put hnN, Instr.extract, map_eq_pure_bind, Sem.run_bind, Result.andThen_ok, Sem.run_pure]
      rfl
    have t2 := t1.put (d := some tB) (by simpa using hlt.2.2.1) (VR_bb true) ds
    have hnB : tB < (Act.put ⟨tmps, ds⟩ (some tN) (.tuple #[.bool true, key, val])).tmps.size := Nat.lt_of_lt_of_le hlt.2.2.1 t1.1
    show (Code.seq (.cond (.tmp tB) .skip (.exit id)) _).wpIn (Fw ro) n P Q _ w'
    refine wpIn_seq (wpIn_cond_true (ev_put hnB) (wpIn_skip ?_))
    show (Code.block id2 _).wpIn (Fw ro) n P Q _ w'
    refine wpIn_block (wpIn_seq (wpIn_region ?_))
    rw [hsz]
    have e2 := evI t2 (by simp only [Tm.put, Tm.get_set, if_neg hne.1, if_neg hne.2])
    refine op_by hR2 (by intro c h; cases h) (c := .tuple #[key, val]) (w' := w') (fun o ho => ?_) hlt.2.2.2 ?_
    · simp only [execOp, ho, e2, map_eq_pure_bind, Sem.run_bind, hent, Result.andThen_ok, Sem.run_pure]
    have t3 := t2.put (d := some tE) (by simpa using hlt.2.2.2) (VR_tup2 v1 v2) ds
    obtain ⟨T2, H2, T', H', hr2, hx2, hI2⟩ := hv.round x hx hns
    refine runOps_ok hcall is l2 hl2 hR' t3 hr2 _ fun ρ1 w1 tm1 k1 k2 k3 => ?_
    show body.wpIn (Fw ro) n P (Exit.inBlock id2 Q) _ w1
    have hM1 := hM'.step k3
    have hS1 := hS'.trans k3
    refine execC_ok hcall hmx b0 lf body xb hb hro _ _ _ _ _ _ _ _ _ _ _ k1 k2 hM1 (Nat.le_trans hb0 hS1.size) hx2 _ fun ρ2 w2 tm2 ds2 q1 q2 q3 q4 => ?_
    exact hN x T' H' ρ2 w2 tm2 ds2 hx hns hI2 q1 q2 q4 (hS1.trans q3) ((hIT'.step k3).step q3)

theorem mapRounds (hcall : CallOK P call) (hmx : P.follows .mixedOrders = true) (hro : ro = none ∨ xb.flat = true)
    (hR1 : R1.toList.map (fun o => (o.dst, o.op, o.guard)) = [(some tN, .next (.tmp tI) false, none), (some tB, .extract (.tmp tN) 0, none)])
    (hR2 : (R2[0]?).map (fun o => (o.dst, o.op, o.guard)) = some (some tE, .entry (.tmp tI), none)) (hsz : List.range R2.size = 0 :: is) (hl2 : cOpers P N R2 (fun _ => []) is = some l2) (hb : comp P N body = some xb) (hlt : tI < N ∧ tN < N ∧ tB < N ∧ tE < N) (hne : tN ≠ tI ∧ tB ≠ tI)
    (hBb : B ≤ wb.heap.size) (hbr : wb.heap.size ≤ r) (hb0 : b0 ≤ wb.heap.size) (hcl : since ≤ cl) (hInv : ∀ k seen T H, Inv k seen T H → ∃ es, MapInv call lf l2 xb tI tN tB tE nm m since cl Inv Post k seen T H es)
    {Q : Exit → Act → World → Prop} (hQ : ∀ T' H' ρ' w' tmps' ds', Post T' H' → Rel P B w0 ρ' H' w' → TR ρ' N T' tmps' → MK b0 ρ' w' ds' → St ρb Hb wb ρ' H' w' → Q (.exit id) ⟨tmps', ds'⟩ w') :
    ∀ (k : Nat) {seen : Array Nat} {c0 : Nat} {T : Tm} {H : AH} {ρ : Rho} {w : World} {tmps : Array Value} {ds : List Deferred}, Inv k seen T H → since ≤ c0 → Rel P B w0 ρ H w → TR ρ N T tmps → MK b0 ρ w ds → St ρb Hb wb ρ H w → IT ρ H w nm r m since seen c0 →
    Code.roundsIn (Fw ro) n P (.seq (.region i1 R1 false) (.seq (.cond (.tmp tB) .skip (.exit id)) (.block id2 (.seq (.region i2 R2 false) body)))) Q (k + 1) ⟨tmps, ds⟩ w
  | 0, seen, c0, T, H, ρ, w, tmps, ds, hI, hsc, hR, hT, hM, hS, hIT => by
    obtain ⟨es, hv⟩ := hInv _ _ _ _ hI
    rw [roundsIn_succ]
    exact mapRound hcall hmx hro hR1 hR2 hsz hl2 hb hlt hne hBb hbr hb0 hv hsc hR hT hM hS hIT (fun T' ρ' w' t' d' h1 h2 h3 h4 h5 => hQ T' H ρ' w' t' d' h1 h2 h3 h4 h5) fun x T' H' ρ' w' t' d' hx hn _ _ _ _ _ _ => absurd (hv.zero rfl x hx) hn
  | k + 1, seen, c0, T, H, ρ, w, tmps, ds, hI, hsc, hR, hT, hM, hS, hIT => by
    obtain ⟨es, hv⟩ := hInv _ _ _ _ hI
    rw [roundsIn_succ]
    exact mapRound hcall hmx hro hR1 hR2 hsz hl2 hb hlt hne hBb hbr hb0 hv hsc hR hT hM hS hIT (fun T' ρ' w' t' d' h1 h2 h3 h4 h5 => hQ T' H ρ' w' t' d' h1 h2 h3 h4 h5) fun x T' H' ρ' w' t' d' hx hn h1 h2 h3 h4 h5 h6 =>
      mapRounds hcall hmx hro hR1 hR2 hsz hl2 hb hlt hne hBb hbr hb0 hcl hInv hQ k h1 hcl h2 h3 h4 h5 h6
end
end
end Go.Proofs.Ytjheedfobmlalaa.E
