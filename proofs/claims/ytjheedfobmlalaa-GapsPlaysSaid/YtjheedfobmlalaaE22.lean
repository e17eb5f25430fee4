/- A law's row, from what the evaluator says of all inputs. It bears no condition. -/
import Derived.Test.YtjheedfobmlalaaE21
import Derived.SizedLaws
import Derived.Carry
import Derived.ChangeOld
import Derived.OpenShut
namespace Go.Proofs.Ytjheedfobmlalaa.E
open Go.RowKit (Below)
open Go.ChangeShapes Go.RowKit
set_option linter.unusedVariables false
set_option linter.unusedSimpArgs false

section
variable {P : Program} {B : Nat} {w0 W : World} {ρ : Rho} {H : AH}

/-- What a value of a type is. -/
def TypedV (P : Program) (H : AH) (k : Nat) (t : TypeId) (a : AV) : Prop :=
  match P.underlying t with
  | some (.struct _) | some (.array _ _) => ∃ l, a = .agg l ∧ Typed P H k t l
  | _ => Typed P H k t [a]
def TypedVs (P : Program) (H : AH) (k : Nat) : List TypeId → List AV → Prop
  | [], l => l = []
  | t :: ts, l => ∃ a as, l = a :: as ∧ TypedV P H k t a ∧ TypedVs P H k ts as
theorem TypedV.mono {H H' : AH} (hg : ∀ n b, H.get n = some b → H'.get n = some b) {k : Nat} {t : TypeId} {a : AV} (h : TypedV P H k t a) : TypedV P H' k t a := by
  unfold TypedV at h ⊢
  split at h
  · obtain ⟨l, rfl, h⟩ := h; exact ⟨l, rfl, h.mono hg⟩
  · obtain ⟨l, rfl, h⟩ := h; exact ⟨l, rfl, h.mono hg⟩
  · exact h.mono hg

theorem arg_got {D : Type} {enc : TypeId × Value → D} {k base : Nat} {t : TypeId} {v : Value} {d : DataW D} {ps : List MemPlace} (hf : fit P k t = true) (hval : Value.okWide P W .any base t v) (h : DataW.Trod enc P W 0 (fun _ => true) true t v d ps)
    (hR : Rel P B w0 ρ H W) (hro : RO H) : ∃ ρ' H' a, Rel P B w0 ρ' H' W ∧ RO H' ∧ Gr ρ H ρ' H' ∧ VR ρ' a v ∧ TypedV P H' k t a := by
  obtain ⟨fuel, h⟩ := h
  obtain ⟨ρ', H', l, r1, o1, g1, v1, n1, t1⟩ := trod_got k t hf fuel _ _ h ρ H hR hro
  unfold Value.okWide at hval
  unfold TypedV
  by_cases hst : (∃ fs, P.underlying t = some (.struct fs)) ∨ ∃ n e, P.underlying t = some (.array n e)
  · have hv : ∃ cs, v = .agg cs := by
      rcases hst with ⟨fs, hu⟩ | ⟨n, e, hu⟩ <;> (rw [hu] at hval; obtain ⟨cs, rfl, _⟩ := hval; exact ⟨cs, rfl⟩)
    obtain ⟨cs, rfl⟩ := hv
    refine ⟨ρ', H', .agg l, r1, o1, g1, by simp only [VR]; exact ⟨cs, rfl, v1, n1⟩, ?_⟩
    rcases hst with ⟨fs, hu⟩ | ⟨n, e, hu⟩ <;> (simp only [hu]; exact ⟨l, rfl, t1⟩)
  · cases k with
    | zero => simp [fit] at hf
    | succ k =>
      have key : ∀ a c, l = [a] → v.cells.toList = [c] → (∀ cs, v ≠ .agg cs) → P.underlying t = P.underlying t → ∃ ρ' H' a, Rel P B w0 ρ' H' W ∧ RO H' ∧ Gr ρ H ρ' H' ∧ VR ρ' a v ∧ Typed P H' (k + 1) t [a] := by
        intro a c hl hc hna _
        have hvc : v.cells = #[v] := by
          cases v <;> first | rfl | exact absurd rfl (hna _)
        rw [hvc] at v1
        subst hl
        rw [VRL_cons_iff] at v1
        obtain ⟨y, ys, he, hy, _⟩ := v1
        simp at he
        obtain ⟨rfl, _⟩ := he
        exact ⟨ρ', H', a, r1, o1, g1, hy, t1⟩
      have hna : ∀ cs, v ≠ .agg cs := by
        rintro cs rfl
        unfold fit at hf
        split at hf
        · rename_i hu; rw [hu] at hval; simp [Cell.okWide, Cell.ok, hu] at hval
        · rename_i hu; rw [hu] at hval; simp [Cell.okWide, Cell.ok, hu] at hval
        · rename_i hu; rw [hu] at hval; simp [Cell.okWide, Cell.ok, hu] at hval
        · rename_i hu; rw [hu] at hval; simp [Cell.okWide, Cell.ok, hu] at hval
        · rename_i fs hu; exact hst (.inl ⟨fs, hu⟩)
        · rename_i n e hu; exact hst (.inr ⟨n, e, hu⟩)
        · cases hf
      have hvc : v.cells = #[v] := by
        cases v <;> first | rfl | exact absurd rfl (hna _)
      have hl1 : ∃ a, l = [a] := by
        have := VRL_len v1
        rw [hvc] at this
        match l, this with
        | [a], _ => exact ⟨a, rfl⟩
      obtain ⟨a, hl⟩ := hl1
      obtain ⟨ρ2, H2, a2, q1, q2, q3, q4, q5⟩ := key a v hl (by rw [hvc]) hna rfl
      refine ⟨ρ2, H2, a2, q1, q2, q3, q4, ?_⟩
      split
      · rename_i fs hu; exact absurd (.inl ⟨fs, hu⟩) hst
      · rename_i n e hu; exact absurd (.inr ⟨n, e, hu⟩) hst
      · exact q5

theorem args_got {D : Type} {enc : TypeId × Value → D} {k base : Nat} : ∀ (ts : List TypeId) (vs : List Value) (ds : List (DataW D)) (ps : List MemPlace), (∀ t ∈ ts, fit P k t = true) → (∀ (j : Nat) t v, ts[j]? = some t → vs[j]? = some v → Value.okWide P W .any base t v) →
    DataW.TrodAll enc P W 0 (fun _ => true) true ts vs ds ps → ∀ ρ H, Rel P B w0 ρ H W → RO H → ∃ ρ' H' as, Rel P B w0 ρ' H' W ∧ RO H' ∧ Gr ρ H ρ' H' ∧ VRL ρ' as vs ∧ TypedVs P H' k ts as
  | [], vs, ds, ps, _, _, h, ρ, H, hR, hro => by
    obtain ⟨rfl, rfl, rfl⟩ := trodAll_nil h
    exact ⟨ρ, H, [], hR, hro, Gr.refl ρ H, VRL_nil, rfl⟩
  | t :: ts, vs, ds, ps, hf, hval, h, ρ, H, hR, hro => by
    obtain ⟨v, vs', d, ds', p, q, rfl, rfl, rfl, h0, r0⟩ := trodAll_cons h
    obtain ⟨ρ1, H1, a, r1, o1, g1, v1, t1⟩ := arg_got (hf t (List.mem_cons_self ..)) (hval 0 t v rfl rfl) h0 hR hro
    obtain ⟨ρ2, H2, as, r2, o2, g2, v2, t2⟩ := args_got ts vs' ds' q (fun u hu => hf u (List.mem_cons_of_mem _ hu)) (fun j u x h1 h2 => hval (j + 1) u x (by simpa using h1) (by simpa using h2)) r0 ρ1 H1 r1 o1
    exact ⟨ρ2, H2, a :: as, r2, o2, g1.trans g2, VRL_cons (VR_mono g2.ext v1) v2, a, as, rfl, t1.mono g2.get, t2⟩

theorem below_trodAll {D : Type} {enc : TypeId × Value → D} (hl : laidOutB P = true) {W' : World} (hb : Below W.heap.size W W') : ∀ (ts : List TypeId) (vs : List Value) (ds : List (DataW D)) (ps : List MemPlace), (∀ t ∈ ts, P.readableRec t = true ∧ t < P.types.size) →
    DataW.TrodAll enc P W 0 (fun _ => true) true ts vs ds ps → (∀ x ∈ ps, x.block < W.heap.size) → DataW.TrodAll enc P W' 0 (fun b => decide (b < W.heap.size)) true ts vs ds ps
  | [], vs, ds, ps, _, h, _ => by
    obtain ⟨rfl, rfl, rfl⟩ := trodAll_nil h
    rfl
  | t :: ts, vs, ds, ps, ht, h, hlt => by
    obtain ⟨v, vs', d, ds', p, q, rfl, rfl, rfl, h0, r0⟩ := trodAll_cons h
    obtain ⟨h1, h2⟩ := ht t (List.mem_cons_self ..)
    exact ⟨p, q, Below.trod hl h1 h2 h0 hb fun x hx => hlt x (List.mem_append.2 (.inl hx)), below_trodAll hl hb ts vs' ds' q (fun u hu => ht u (List.mem_cons_of_mem _ hu)) r0 fun x hx => hlt x (List.mem_append.2 (.inr hx)), rfl⟩
end

/-- The law answers true, whatever its arguments. -/
theorem law_lifted {C : Checked} (hg : C.prog.globals.size = 0) (hl : laidOutB C.prog = true)
    {os : Os} {f : FuncId} {fn : Func} {s : ChangeSpec} {conds : List PathCond} {apart : Bool} {k : Nat} {tb : TypeId} {D : Type} {enc : TypeId × Value → D} (own : ownKnob C.prog.godebug = none) (started : os.Started) (noInit : C.prog.inits.idxOf? f = none) (hfn : C.prog.funcs[f]? = some fn)
    (witness : ∃ (w : World) (tape : Tape) (i : Input), w.os = os ∧ (w.forCall tape i).Shaped C.prog ∧ i.vars = [] ∧ Input.okWide C.prog (w.forCall tape i) .any w.heap.size f i ∧
      s.pre6 enc C.prog fn conds apart (w.forCall tape i).memory i.args ∧ ({} : Assume).holds C.prog (lone (Frame.enter C.prog f i.args .normal) [] (w.forCall tape i)))
    (hvars : s.vars = []) (hres : fn.resultTypes = #[tb]) (htb : C.prog.underlying tb = some .bool)
    (hts : ∀ t ∈ fn.params.toList, fit C.prog k t = true ∧ C.prog.readableRec t = true ∧ t < C.prog.types.size)
    (hspec : ∀ ds : List (DataW D), ds.length = fn.params.size → s.fn D ds = { results := [.lit (.bool true)], args := ds })
    (law : ∀ W ρ H as (args : Array Value), Rel C.prog W.heap.size W ρ H W → RO H → VRL ρ as args.toList → TypedVs C.prog H k fn.params.toList as → Calls C.prog f args W fun e w' => e = .returned (.bool true) ∧ Below W.heap.size W w') :
    ReturnsInHanded {} C os f .any (s.pre6 enc C.prog fn conds apart) (s.post enc C.prog fn apart true false false) := by
  refine returnsInHanded_of_change_sized own started noInit hfn witness ?_
  intro W base args ds gs before hval hW hcnd hsz _
  have hW' := hW
  obtain ⟨p, q, hA, hV, rfl, hfz, hnd⟩ := hW
  rw [hvars] at hV
  obtain ⟨rfl, rfl⟩ := trodVars_none hV
  obtain ⟨ρ', H', as, r1, o1, g1, v1, t1⟩ := args_got (k := k) (base := base) fn.params.toList args.toList ds p (fun t ht => (hts t ht).1) (fun j t v h1 h2 => hval j t v (by simpa using h1) (by simpa using h2)) hA _ _ (Rel.start hg W) (fun n b h => by simp [AH.get, e0, AH.getL] at h)
  refine (law W ρ' H' as args r1 o1 v1 t1).mono fun e W' ⟨he, bel⟩ => ?_
  subst he
  have hlen : ds.length = fn.params.size := by
    have key : ∀ (ts : List TypeId) (vs : List Value) (ds : List (DataW D)) (ps : List MemPlace), DataW.TrodAll enc C.prog W 0 (fun _ => true) true ts vs ds ps → ds.length = ts.length := by
      intro ts
      induction ts with
      | nil => intro vs ds ps h; obtain ⟨rfl, rfl, rfl⟩ := trodAll_nil h; rfl
      | cons t ts ih => intro vs ds ps h; obtain ⟨v, vs', d, ds', p, q, rfl, rfl, rfl, _, r0⟩ := trodAll_cons h; simp [ih _ _ _ r0]
    simpa using key _ _ _ _ hA
  refine ⟨_, rfl, ds, [], p ++ [], [], p, [], hW', ?_, ?_, ?_, bel.frame _, fun h => by cases h⟩
  · rw [List.append_nil, hspec ds hlen, hres]
    exact trodAll_mk1 (shut_bool htb _)
  · rw [List.append_nil, hspec ds hlen]
    exact below_trodAll hl bel _ _ _ _ (fun t ht => (hts t ht).2) hA fun x hx => hW'.lt x (List.mem_append.2 (.inl hx))
  · rw [List.append_nil, hspec ds hlen, hvars]
    rfl

/-- The blocks that are asked for, under names of one's own. -/
def pickH (H : AH) (ns : List Nat) : AH := ⟨ns.zipIdx.map fun p => (p.2, H.get p.1), ns.length⟩
def pickR (ρ : Rho) (ns : List Nat) : Rho := fun i => (ns[i]?).bind ρ
theorem pickH_get {H : AH} : ∀ (ns : List Nat) (i : Nat), (pickH H ns).get i = (ns[i]?).bind H.get := by
  intro ns i
  have key : ∀ (ns : List Nat) (k : Nat), AH.getL ((ns.zipIdx k).map fun p => (p.2, H.get p.1)) i = if k ≤ i then (ns[i - k]?).bind H.get else none := by
    intro ns
    induction ns with
    | nil => intro k; simp [AH.getL]
    | cons n ns ih =>
      intro k
      simp only [List.zipIdx_cons, List.map_cons, AH.getL, ih]
      by_cases h : k = i
      · subst h; simp
      · rw [if_neg h]
        by_cases h2 : k ≤ i
        · have e : i - k = (i - (k + 1)) + 1 := by omega
          rw [if_pos (by omega), if_pos h2, e]; simp
        · rw [if_neg (by omega), if_neg h2]
  have := key ns 0
  simpa [pickH, AH.get] using this
theorem Rel.pick {P : Program} {B : Nat} {w0 W : World} {ρ : Rho} {H : AH} (hg : P.globals.size = 0) (hR : Rel P B w0 ρ H W) (hro : RO H) (ns : List Nat) (hfl : ∀ n ∈ ns, ∀ c mu, H.get n = some (.cells c mu) → flatVL c = true) : Rel P B w0 (pickR ρ ns) (pickH H ns) W := by
  refine ⟨hR.hB, hR.below, fun n h => ?_, fun g h => by omega, fun n b h => ?_, fun n k o s h => ?_, fun n b m c k o s k' o' s' h1 _ _ hm => ?_⟩
  · simp only [pickH] at h
    unfold pickR
    rw [List.getElem?_eq_none (by omega)]; rfl
  · rw [pickH_get] at h
    obtain ⟨m, h1, h2⟩ := Option.bind_eq_some_iff.1 h
    have hb := hR.blk m b h2
    have e : pickR ρ ns n = ρ m := by unfold pickR; rw [h1]; rfl
    have hmu := hro m b h2
    cases b with
    | cells c mu =>
      obtain ⟨k, o, s, cs, t, fr, q1, q2, q3, q4, q5, q6⟩ := hb
      refine ⟨k, o, s, cs, t, fr, by rw [e]; exact q1, q2, q3, fun i v hv => ?_, q5, q6⟩
      have hall : ∀ (l : List AV), flatVL l = true → ∀ x ∈ l, flatV x = true := by
        intro l
        induction l with
        | nil => intro _ x hx; cases hx
        | cons y l ih =>
          intro h x hx
          simp only [flatVL, Bool.and_eq_true] at h
          rcases List.mem_cons.1 hx with rfl | hx
          · exact h.1
          · exact ih h.2 x hx
      obtain ⟨cv, hc, hv'⟩ := q4 i v hv
      exact ⟨cv, hc, VR_flat (hall c (hfl m (List.mem_of_getElem? h1) c mu h2) v (List.mem_of_getElem? hv)) hv'⟩
    | map es cl => cases hmu
    | loop => cases hmu
  · unfold pickR at h
    obtain ⟨m, h1, h2⟩ := Option.bind_eq_some_iff.1 h
    exact hR.lt _ _ _ _ h2
  · rw [pickH_get] at h1
    obtain ⟨m, _, h2⟩ := Option.bind_eq_some_iff.1 h1
    rw [hro m b h2] at hm; cases hm
end Go.Proofs.Ytjheedfobmlalaa.E
