/- What turns the heap: in the evaluator and on the machine: append, copy, maps. It bears no condition. -/
import Derived.Test.YtjheedfobmlalaaE10
namespace Go.Proofs.Ytjheedfobmlalaa.E
open Go.RowKit (Below)
set_option linter.unusedVariables false
set_option linter.unusedSimpArgs false

section
variable {P : Program} {B : Nat} {w0 w : World} {ρ : Rho} {H : AH} {N : Nat} {T : Tm} {tmps : Array Value} {ds : List Deferred}

theorem run_lenOf {x : AV} {v : Value} {n : Nat} (hx : VR ρ x v) (h : lenOfA x = some n) : (Builtin.lenOf v).run P w = .ok n w := by
  unfold lenOfA at h
  split at h
  · rename_i a m c g
    simp only [Option.some.injEq] at h; subst h
    cases a with
    | none => simp only [VR] at hx; obtain ⟨rfl, rfl, rfl⟩ := hx; rfl
    | some a => simp only [VR] at hx; obtain ⟨y, c, rfl, _⟩ := hx; rfl
  · rename_i s
    simp only [Option.some.injEq] at h; subst h
    rw [VR_s hx]; rfl
  · cases h

theorem src_ok (hR : Rel P B w0 ρ H w) {x : AV} {v : Value} (hx : VR ρ x v) {size n m : Nat} (hm : lenOfA x = some m) (hn : n ≤ m) {l : List AV} (h : XOp.src H size n x = some l) :
    ∃ us : List Value, VRL ρ l us ∧ (∀ y ∈ l, AV.one y = true) ∧ (Builtin.firstCells size n v).run P w = .ok us.toArray w ∧ us.length = n * size := by
  unfold XOp.src at h
  split at h
  · rename_i len cap g
    split at h
    · rename_i h0; subst h0
      simp only [Option.some.injEq] at h; subst h
      simp only [VR] at hx; obtain ⟨rfl, rfl, rfl⟩ := hx
      exact ⟨[], VRL_nil, by simp, rfl, by simp⟩
    · cases h
  · rename_i b o len cap g
    simp only [VR] at hx
    obtain ⟨y, c, rfl, hlc, hx⟩ := hx
    simp only [lenOfA, Option.some.injEq] at hm; subst hm
    split at h
    · rename_i h0
      simp only [Option.some.injEq] at h; subst h
      refine ⟨[], VRL_nil, by simp, ?_, by simp [h0]⟩
      simp only [Builtin.firstCells, h0]; rfl
    · rename_i h0
      split at h
      · rename_i cc mu hb
        obtain ⟨k2, o2, s2, cs, t2, fr, hk2, hw, hs2, hc, hone, _⟩ := hR.blk _ _ hb
        rcases hx with ⟨kk, o', s', hk, rfl, _⟩ | ⟨e1, _, _⟩
        · replace hk : ρ b = some (kk, o', s') := hk
          rw [hk] at hk2; cases hk2
          obtain ⟨vs, hl, hv, hg⟩ := CR_take hc h
          refine ⟨vs, hv, fun y hy => ?_, ?_, hl⟩
          · obtain ⟨_, rfl, _⟩ := takeAt_some h
            exact hone y (List.mem_of_mem_drop (List.mem_of_mem_take hy))
          · simp only [Builtin.firstCells]
            rw [← hl]
            exact run_loadCells vs fun j v e => by rw [add_addr, cell_of_blk hw]; exact hg j v e
        · exfalso; apply h0
          rw [show n = 0 by omega]; simp
      · cases h
  · rename_i s
    split at h
    case isFalse => cases h
    rename_i hs1
    simp only [Option.some.injEq] at h; subst h
    rw [VR_s hx]
    simp only [lenOfA, Option.some.injEq] at hm; subst hm
    refine ⟨(s.data.toList.take n).map fun b => .int .u8 b.toNat, VRL_map _ _ (fun b => by simp only [VR]) _, ?_, ?_, ?_⟩
    · intro y hy; obtain ⟨b, _, rfl⟩ := List.mem_map.1 hy; rfl
    · simp only [Builtin.firstCells, Sem.run_pure]
      congr 1
      apply Array.ext'
      simp [ByteArray.data_extract, Array.toList_extract, List.extract_eq_take_drop]
    · have h3 : s.data.toList.length = s.size := by rw [Array.length_toList]; rfl
      rw [List.length_map, List.length_take, hs1, Nat.mul_one, h3]; omega
  · cases h

theorem VRL_len_nil {l : List AV} (h : VRL ρ l []) : l = [] := by have := VRL_len h; exact List.length_eq_zero_iff.1 this

theorem grow_le (newLen : Nat) : ∀ (r c : Nat), c ≤ 2 * newLen + 768 → Builtin.growBy newLen r c ≤ 2 * newLen + 768
  | 0, c, h => h
  | r + 1, c, h => by
    simp only [Builtin.growBy]
    split
    · exact h
    · exact grow_le newLen r _ (by omega)
theorem next_le {newLen oldCap : Nat} (h : oldCap ≤ newLen) : Builtin.nextslicecap newLen oldCap ≤ 2 * newLen + 768 := by
  unfold Builtin.nextslicecap
  split
  · omega
  · split
    · omega
    · exact grow_le _ _ _ (by omega)

theorem VRL_cells {us : List Value} {c : List AV} (h : VRL ρ c us) (more : Array Value) : CR ρ c (us.toArray ++ more) 0 := fun i v e => by
  obtain ⟨cv, h1, h2⟩ := VRL_get h i v e
  refine ⟨cv, ?_, h2⟩
  have := (List.getElem?_eq_some_iff.1 h1).1
  rw [Nat.zero_add, Array.getElem?_append_left (by simpa using this)]
  simpa using h1

abbrev Tk (P : Program) (B : Nat) (w0 : World) (ρ : Rho) (H : AH) (w : World) (s : Sem Value) (v : AV) (H' : AH) : Prop := ∃ c w' ρ', s.run P w = .ok c w' ∧ VR ρ' v c ∧ Rel P B w0 ρ' H' w' ∧ St ρ H w ρ' H' w'

/-- append -/
theorem tk_append (hR : Rel P B w0 ρ H w) {ats : Array TypeId} {t e u : TypeId} (ht : ats[0]? = some t) (hs : P.underlying t = some (.slice e)) (hu : ats[1]? = some u) (hdu : (∃ q, P.underlying u = some (.slice q)) ∨ P.underlying u = some .string) {size bytes : Nat} (hsz : tsize P e = some size) (hby : tbytes P e = some bytes) {z : List AV} (hz : tzero P e = some z) (h1 : 0 < size) (h2 : 0 < bytes)
    {s x : AV} {sv xv : Value} (hsv : VR ρ s sv) (hxv : VR ρ x xv) {v : AV} {H' : AH} (h : (XOp.append size bytes (.c s) (.c x)).turn T H = some (v, H')) (ty : TypeId) :
    Tk P B w0 ρ H w (Builtin.append_ ats ty #[sv, xv]) v H' := by
  obtain ⟨zv, n2, hzr, hzv, hzo, hn2, hzl⟩ := run_zero (P := P) (ρ := ρ) (w := w) hz
  rw [hsz] at hn2; cases hn2
  have hzs : zv.cells.size = size := by have := VRL_len hzv; simpa [hzl] using this.symm
  obtain ⟨ti, hti, hbt⟩ := run_bytes hby
  simp only [XOp.turn, XO.ev] at h
  cases s with
  | sl a len cap g =>
    simp only at h
    cases hl : lenOfA x with
    | none => simp [hl] at h
    | some n =>
      simp only [hl] at h
      cases hsrc : XOp.src H size n x with
      | none => simp [hsrc] at h
      | some new =>
        simp only [hsrc] at h
        obtain ⟨us, hus, huo, hur, hul⟩ := src_ok hR hxv hl (Nat.le_refl n) hsrc
        have hlenx := run_lenOf (P := P) (w := w) hxv hl
        obtain ⟨base, ccap, rfl, hab⟩ : ∃ (base : Option Addr) (ccap : Nat), sv = .slice base len ccap ∧ cap ≤ ccap := by
          cases a with
          | none => simp only [VR] at hsv; obtain ⟨rfl, rfl, rfl⟩ := hsv; exact ⟨none, 0, rfl, Nat.le_refl _⟩
          | some a =>
            simp only [VR] at hsv
            obtain ⟨y, c, rfl, _, hx⟩ := hsv
            refine ⟨some y, c, rfl, ?_⟩
            rcases hx with ⟨_, _, _, _, _, e1, e2⟩ | ⟨_, e, e'⟩
            · by_cases hg0 : g = 0
              · rw [e1 hg0]; exact Nat.le_refl _
              · exact (e2 hg0).1
            · omega
        by_cases hA : len + n ≤ ccap
        · have hrun : (Builtin.append_ ats ty #[.slice base len ccap, xv]).run P w = ((match base with
              | some a => do
                storeCells (a.add (len * size)) us
                pure (Value.slice base (len + n) ccap)
              | none => pure (Value.slice base (len + n) ccap)) : Sem Value).run P w := by
            rcases hdu with ⟨q, hdu⟩ | hdu <;>
            (simp only [Builtin.append_, ht, hu, List.getElem?_toArray, List.getElem?_cons_zero, List.getElem?_cons_succ, Sem.run_bind, run_underlying hs, run_underlying hdu, Result.andThen_ok, run_sizeOf hsz, Sem.run_pure, Bool.false_eq_true, if_false, hlenx, if_pos hA, Bool.not_false, if_true, hur]
             cases base <;> rfl)
          by_cases hC : len + n ≤ cap
          · rw [if_pos hC] at h
            cases a with
            | none =>
              simp only [VR] at hsv
              obtain ⟨rfl, rfl, hsv⟩ := hsv
              cases hsv
              simp only at h
              split at h
              · rename_i hn0; subst hn0
                simp only [Option.some.injEq, Prod.mk.injEq] at h
                obtain ⟨rfl, rfl⟩ := h
                exact ⟨.slice none 0 0, w, ρ, by rw [hrun]; rfl, by simp [VR], hR, St.refl ρ H w⟩
              · cases h
            | some ab =>
              simp only [Option.map_eq_some_iff] at h
              obtain ⟨H2, hw, h⟩ := h
              simp only [Prod.mk.injEq] at h
              obtain ⟨rfl, rfl⟩ := h
              simp only [VR] at hsv
              obtain ⟨y, c, hsv, hlc, hx⟩ := hsv
              cases hsv
              rcases hx with ⟨k, o, s, hk, rfl, e1, e2⟩ | ⟨rfl, rfl, rfl⟩
              · obtain ⟨w', hr, hR', hSt⟩ := write_ok hR hw hus huo hk
                refine ⟨.slice (some ⟨k, o + ab.2, none⟩) (len + n) ccap, w', ρ, ?_, ?_, hR', hSt⟩
                · rw [hrun]
                  simp only [Sem.run_bind, add_addr]
                  rw [show o + ab.2 + len * size = o + (ab.2 + len * size) by omega, hr]; rfl
                · simp only [VR]
                  exact ⟨_, _, rfl, hC, .inl ⟨k, o, s, hk, rfl, e1, e2⟩⟩
              · have hn0 : n = 0 := by omega
                subst hn0
                have hu0 : us = [] := List.length_eq_zero_iff.1 (by omega)
                subst hu0
                rw [VRL_len_nil hus] at hw
                simp only [AH.write, if_true, Option.some.injEq] at hw
                subst hw
                refine ⟨.slice (some y) 0 0, w, ρ, ?_, ?_, hR, St.refl ρ H w⟩
                · rw [hrun]; rfl
                · simp only [VR]; exact ⟨_, _, rfl, Nat.le_refl _, .inr (by simp)⟩
          · rw [if_neg hC] at h
            -- it grows in its place, behind what the evaluator knows
            split at h
            · rename_i hbnd
              split at h
              · rename_i old hold
                split at h
                · rename_i hg0
                  exfalso
                  cases a with
                  | none => simp only [VR] at hsv; obtain ⟨rfl, rfl, hsv⟩ := hsv; cases hsv; omega
                  | some ab =>
                    simp only [VR] at hsv
                    obtain ⟨y, c, hsv, hlc, hx⟩ := hsv
                    cases hsv
                    rcases hx with ⟨k, o, s, hk, rfl, e1, e2⟩ | ⟨rfl, rfl, rfl⟩
                    · have := e1 hg0; omega
                    · omega
                · rename_i hg0
                  split at h
                  · rename_i hgs
                    subst hgs
                    cases a with
                    | none => simp at h
                    | some ab =>
                      simp only at h
                      split at h
                      · rename_i cc hb
                        simp only [Option.some.injEq, Prod.mk.injEq] at h
                        obtain ⟨rfl, rfl⟩ := h
                        have hsv0 := hsv
                        simp only [VR] at hsv
                        obtain ⟨y, c, hsv, hlc, hx⟩ := hsv
                        cases hsv
                        rcases hx with ⟨k, o, s, hk, rfl, e1, e2⟩ | ⟨rfl, rfl, rfl⟩
                        · obtain ⟨e3, e4⟩ := e2 hg0
                          obtain ⟨k2, o2, s2, cs, t2, fr, hk2, hw, hs2, hc, hone, hm⟩ := hR.blk _ _ hb
                          rw [hk] at hk2; cases hk2
                          obtain ⟨hB, hf⟩ := hm rfl
                          obtain ⟨os, hos, hoo, hor, hol⟩ := src_ok (P := P) (w := w) hR hsv0 (m := len) rfl (Nat.le_refl _) hold
                          have hmul : (len + n) * g ≤ ccap * g := Nat.mul_le_mul_right g hA
                          rw [Nat.add_mul] at hmul
                          have hst := run_storeCells (P := P) (ρ := ρ) (k := k) (o := o + ab.2 + len * g) (t := t2) (fr := fr) (us := us) (vs := new) (w := w) (cs := cs) (j := 0) hw hus huo (by omega) (fun i hi h9 => by rw [hf] at h9; exact absurd h9.2 (by simp))
                          have hn : ρ H.next = none := hR.dom _ (Nat.le_refl _)
                          have he : Ext ρ (ρ.upd H.next (k, o + ab.2, s)) := Rho.upd_ext hn
                          have hkw : k < w.heap.size := hR.lt _ _ _ _ hk
                          have holdcells : ∀ i v, old[i]? = some v → ∃ cv, cs[o + ab.2 + i]? = some cv ∧ VR ρ v cv := by
                            intro i v hi
                            unfold XOp.src at hold
                            simp only at hold
                            split at hold
                            · simp only [Option.some.injEq] at hold; subst hold; simp at hi
                            · rw [hb] at hold
                              simp only at hold
                              obtain ⟨q1, rfl, q3⟩ := takeAt_some hold
                              by_cases hil : i < len * g
                              · rw [List.getElem?_take_of_lt hil, List.getElem?_drop] at hi
                                obtain ⟨cv, h1, h2⟩ := hc _ _ hi
                                exact ⟨cv, by rw [← h1]; congr 1; omega, h2⟩
                              · rw [List.getElem?_take_eq_none (by omega)] at hi; cases hi
                          refine ⟨.slice (some ⟨k, o + ab.2, none⟩) (len + n) ccap, World.put w k (.cells (putArr cs (o + ab.2 + len * g + 0) us) t2 fr), ρ.upd H.next (k, o + ab.2, s), ?_, ?_, ?_, ?_⟩
                          · rw [hrun]
                            simp only [Sem.run_bind, add_addr, hst]; rfl
                          · simp only [VR]
                            exact ⟨_, _, rfl, Nat.le_refl _, .inl ⟨k, o + ab.2, s, Rho.upd_same, by simp, fun h => absurd h hg0, fun _ => ⟨hA, by omega⟩⟩⟩
                          · refine ⟨hR.hB, ?_, ?_, ?_, ?_, ?_, ?_⟩
                            · exact hR.below.trans ⟨rfl, rfl, rfl, by rw [put_size]; exact Nat.le_refl _, fun j hj => put_other (by omega)⟩
                            · intro m hm
                              simp only [AH.next_drop, AH.next_alloc] at hm
                              unfold Rho.upd
                              rw [if_neg (by omega)]
                              exact hR.dom m (by omega)
                            · intro gg hgg
                              obtain ⟨s', e⟩ := hR.glob gg hgg
                              exact ⟨s', he _ _ e⟩
                            · intro m b' hm
                              rw [AH.get_drop] at hm
                              split at hm
                              · cases hm
                              · rename_i hmb
                                rw [AH.get_alloc] at hm
                                split at hm
                                · rename_i e; subst e
                                  simp only [Option.some.injEq] at hm; subst hm
                                  refine ⟨k, o + ab.2, s, _, t2, fr, Rho.upd_same, put_same hw, by rw [putArr_size]; exact hs2, ?_, ?_, fun _ => ⟨hB, hf⟩⟩
                                  · intro i v hi
                                    rw [putArr_get]
                                    have hlo := VRL_len hos
                                    have hln := VRL_len hus
                                    by_cases hil : i < old.length
                                    · rw [List.getElem?_append_left hil] at hi
                                      obtain ⟨cv, h1, h2⟩ := holdcells i v hi
                                      refine ⟨cv, ?_, VR_mono he h2⟩
                                      rw [if_neg (by omega)]; exact h1
                                    · rw [List.getElem?_append_right (by omega)] at hi
                                      obtain ⟨cv, h1, h2⟩ := VRL_get hus _ _ hi
                                      refine ⟨cv, ?_, VR_mono he h2⟩
                                      have := (List.getElem?_eq_some_iff.1 hi).1
                                      rw [if_pos (by omega), ← h1]
                                      congr 1; omega
                                  · intro y hy
                                    rcases List.mem_append.1 hy with h1 | h1
                                    · exact hoo y h1
                                    · exact huo y h1
                                · refine (hR.blk m b' hm).keep he fun k' o' s' e' => put_other ?_
                                  exact (hR.mu ab.1 _ m b' k o s k' o' s' hb hm hmb rfl hk e').symm
                            · intro m k' o' s' hm
                              rw [put_size]
                              unfold Rho.upd at hm
                              split at hm
                              · simp only [Option.some.injEq, Prod.mk.injEq] at hm; omega
                              · exact hR.lt _ _ _ _ hm
                            · intro m b1 m' b2 k1 o1 s1 k2 o2 s2' g1 g2 hne hm1 f1 f2
                              rw [AH.get_drop] at g1 g2
                              split at g1
                              · cases g1
                              · rename_i hmb1
                                split at g2
                                · cases g2
                                · rename_i hmb2
                                  rw [AH.get_alloc] at g1 g2
                                  unfold Rho.upd at f1 f2
                                  by_cases c1 : H.next = m
                                  · by_cases c2 : H.next = m'
                                    · omega
                                    · rw [if_neg c2] at g2
                                      rw [if_pos c1.symm] at f1
                                      rw [if_neg (fun h => c2 h.symm)] at f2
                                      simp only [Option.some.injEq, Prod.mk.injEq] at f1
                                      rw [← f1.1]
                                      exact hR.mu ab.1 _ m' b2 k o s k2 o2 s2' hb g2 hmb2 rfl hk f2
                                  · rw [if_neg c1] at g1
                                    rw [if_neg (fun h => c1 h.symm)] at f1
                                    by_cases c2 : H.next = m'
                                    · rw [if_pos c2.symm] at f2
                                      simp only [Option.some.injEq, Prod.mk.injEq] at f2
                                      rw [← f2.1]
                                      exact (hR.mu ab.1 _ m b1 k o s k1 o1 s1 hb g1 hmb1 rfl hk f1).symm
                                    · rw [if_neg c2] at g2
                                      rw [if_neg (fun h => c2 h.symm)] at f2
                                      exact hR.mu m b1 m' b2 k1 o1 s1 k2 o2 s2' g1 g2 hne hm1 f1 f2
                          · refine ⟨he, by rw [put_size]; exact Nat.le_refl _, Nat.le_succ _, fun j hj hj2 => put_other fun e => ?_, fun m j o' s' hm hj => ?_, fun m hm => ?_, fun m h1 h2 => ?_⟩
                            · have := (hj2 ab.1 o s (by rw [hk, e])).2
                              rw [hb] at this; cases this
                            · unfold Rho.upd at hm
                              split at hm
                              · simp only [Option.some.injEq, Prod.mk.injEq] at hm
                                refine .inr ⟨ab.1, o, s, by rw [hk, hm.1], fun hu => ?_⟩
                                have := hu.2
                                rw [hb] at this; cases this
                              · exact .inl hm
                            · have h1 := hm.1
                              rw [AH.get_drop, AH.get_alloc, hm.2, if_neg (show ¬ H.next = m by omega)]
                              split <;> rfl
                            · unfold Rho.upd
                              rw [if_neg (by omega)]
                              exact h2
                        · omega
                      · cases h
                  · cases h
              · cases h
            · cases h
        · have hC : ¬ len + n ≤ cap := by omega
          rw [if_neg hC] at h
          split at h
          · rename_i hbnd
            split at h
            · rename_i old hold
              obtain ⟨os, hos, hoo, hor, hol⟩ := src_ok (P := P) (w := w) hR hsv (m := len) rfl (Nat.le_refl _) hold
              obtain ⟨nc, hnc, hch⟩ : ∃ nc, len + n ≤ nc ∧ (choose (.appendCap (len + n) ccap e)).run P w = .ok nc { w with drawn := w.drawn + 1 } :=
                ⟨_, by show len + n ≤ Question.cut (.appendCap (len + n) ccap e) (w.tape w.drawn (.appendCap (len + n) ccap e)); simp [Question.cut], by rw [run_choose]; rfl⟩
              have hR1 := hR.drew (w.drawn + 1)
              obtain ⟨us1, hus1, _, hur1, hul1⟩ := src_ok (P := P) hR1 hxv hl (Nat.le_refl n) hsrc
              obtain ⟨os1, hos1, _, hor1, hol1⟩ := src_ok (P := P) hR1 hsv (m := len) rfl (Nat.le_refl _) hold
              have hzr1 : (zeroValue e).run P { w with drawn := w.drawn + 1 } = .ok zv { w with drawn := w.drawn + 1 } := by
                unfold tzero at hz
                rw [hti] at hz
                simp only at hz
                have hz0 : ti.zero = some zv := by
                  have := hzr
                  simp only [zeroValue, Sem.run_bind, run_typeInfo hti, Result.andThen_ok] at this
                  cases hzz : ti.zero with
                  | none => rw [hzz] at this; simp at this
                  | some q => rw [hzz] at this; simp at this; rw [this]
                simp [zeroValue, run_typeInfo hti, hz0]
              have hrest : (Builtin.zeroCells zv.cells (nc - (len + n))).size = (nc - (len + n)) * size := by simp [Builtin.zeroCells, hzs]
              have hsize : (os1.toArray ++ us1.toArray ++ Builtin.zeroCells zv.cells (nc - (len + n))).size = nc * size := by
                simp only [Array.size_append, hrest, List.size_toArray, hol1, hul1]
                rw [← Nat.add_mul, ← Nat.add_mul]
                congr 1; omega
              have hrow : CR ρ (old ++ new) (os1.toArray ++ us1.toArray ++ Builtin.zeroCells zv.cells (nc - (len + n))) 0 := by
                have := VRL_cells (VRL_append hos1 hus1) (Builtin.zeroCells zv.cells (nc - (len + n)))
                simpa using this
              have hone2 : ∀ y ∈ old ++ new, AV.one y = true := fun y hy => by
                rcases List.mem_append.1 hy with h1 | h1
                · exact hoo y h1
                · exact huo y h1
              obtain ⟨hR2, hSt2⟩ := hR.cells hrow hone2 e (0, 0) rfl (w.drawn + 1)
              have hrun : (Builtin.append_ ats ty #[.slice base len ccap, xv]).run P w = .ok (.slice (some ⟨w.heap.size, 0, none⟩) (len + n) nc) (World.more w (.cells (os1.toArray ++ us1.toArray ++ Builtin.zeroCells zv.cells (nc - (len + n))) e) (w.drawn + 1)) := by
                have hb1 : ¬ (Builtin.nextslicecap (len + n) ccap * ti.bytes > 2 ^ 48) := by
                  rw [hbt]
                  have q1 := next_le (newLen := len + n) (oldCap := ccap) (by omega)
                  have q2 : Builtin.nextslicecap (len + n) ccap * bytes ≤ (2 * (len + n) + 768) * bytes := Nat.mul_le_mul_right _ q1
                  have q3 : bytes ≤ (len + n) * bytes := Nat.le_mul_of_pos_left _ (by omega)
                  rw [Nat.add_mul, Nat.mul_assoc] at q2
                  omega
                have hb2 : ¬ (((len + n : Nat) : Int) > IntKind.i64.max ∧ (false = true ∨ ti.bytes = 0)) := by
                  rw [hbt]
                  rintro ⟨_, h | h⟩
                  · cases h
                  · omega
                rcases hdu with ⟨q, hdu⟩ | hdu <;>
                (simp only [Builtin.append_, ht, hu, List.getElem?_toArray, List.getElem?_cons_zero, List.getElem?_cons_succ, Sem.run_bind, run_underlying hs, run_underlying hdu, Result.andThen_ok, run_sizeOf hsz, Sem.run_pure, Bool.false_eq_true, if_false, hlenx, if_neg hA, Bool.not_false, if_true, run_typeInfo hti]
                 rw [if_neg (by simpa using hb2)]
                 simp only [Sem.run_bind, Sem.run_pure, Result.andThen_ok, run_typeInfo hti]
                 rw [if_neg hb1]
                 simp only [Sem.run_bind, Sem.run_pure, Result.andThen_ok, hch, run_typeInfo hti, run_askRoom, hor1, hur1, hzr1, newRow, run_newObj]
                 rfl)
              have hvr : VR (ρ.upd H.next (w.heap.size, 0, (os1.toArray ++ us1.toArray ++ Builtin.zeroCells zv.cells (nc - (len + n))).size)) (.sl (some (H.next, 0)) (len + n) (len + n) size) (.slice (some ⟨w.heap.size, 0, none⟩) (len + n) nc) := by
                simp only [VR]
                exact ⟨_, _, rfl, Nat.le_refl _, .inl ⟨w.heap.size, 0, _, Rho.upd_same, rfl, fun h => by omega, fun _ => ⟨hnc, by rw [hsize]; omega⟩⟩⟩
              split at h
              · simp only [Option.some.injEq, Prod.mk.injEq] at h
                obtain ⟨rfl, rfl⟩ := h
                exact ⟨_, _, _, hrun, hvr, hR2, hSt2⟩
              · split at h
                · split at h
                  · split at h
                    · simp only [Option.some.injEq, Prod.mk.injEq] at h
                      obtain ⟨rfl, rfl⟩ := h
                      exact ⟨_, _, _, hrun, hvr, hR2.drop _, hSt2.drop _⟩
                    · cases h
                  · cases h
                · cases h
            · cases h
          · cases h
  | _ => simp at h
end
end Go.Proofs.Ytjheedfobmlalaa.E
