/- What an operation that turns nothing gives in the evaluator, it gives on the machine. It bears no condition. -/
import Derived.Test.YtjheedfobmlalaaE3
namespace Go.Proofs.Ytjheedfobmlalaa.E
open Go.RowKit (Below)
set_option linter.unusedVariables false
set_option linter.unusedSimpArgs false

section basics
variable {P : Program} {w : World}
theorem run_underlying {t : TypeId} {d : TypeDesc} (h : P.underlying t = some d) : (underlying t).run P w = .ok d w := by simp [underlying, h]
theorem run_typeInfo {t : TypeId} {i : TypeInfo} (h : P.info? t = some i) : (typeInfo t).run P w = .ok i w := by simp [typeInfo, h]
theorem run_sizeOf {t : TypeId} {n : Nat} (h : tsize P t = some n) : (sizeOf t).run P w = .ok n w := by
  unfold tsize at h
  cases hi : P.info? t with
  | none => simp [hi] at h
  | some i => simp [hi] at h; simp [sizeOf, run_typeInfo hi, h]
theorem run_bytes {t : TypeId} {n : Nat} (h : tbytes P t = some n) : ∃ i, P.info? t = some i ∧ i.bytes = n := by
  unfold tbytes at h
  cases hi : P.info? t with
  | none => simp [hi] at h
  | some i => simp [hi] at h; exact ⟨i, rfl, h⟩
theorem tsize_some {t : TypeId} {n : Nat} (h : tsize P t = some n) : ∃ i, P.info? t = some i ∧ i.size = n := by
  unfold tsize at h
  cases hi : P.info? t with
  | none => simp [hi] at h
  | some i => simp [hi] at h; exact ⟨i, rfl, h⟩
theorem run_isAgg {t : TypeId} {n : Nat} (h : tsize P t = some n) (hu : (P.underlying t).isSome = true) : (isAgg t).run P w = .ok (tagg P t) w := by
  unfold isAgg tagg
  cases hd : P.underlying t with
  | none => simp [hd] at hu
  | some d => cases d <;> simp [run_underlying hd]
end basics

/-! ### Values -/
theorem absS_ok {ρ : Rho} {v : Value} {a : AV} (h : absS v = some a) : VR ρ a v := by
  unfold absS at h
  split at h <;> first | (simp at h; subst h; simp [VR]; done) | (simp at h)
theorem absL_ok {ρ : Rho} : ∀ {l : List Value} {a : List AV}, absL l = some a → VRL ρ a l
  | [], a, h => by simp [absL] at h; subst h; exact VRL_nil
  | v :: r, a, h => by
    simp only [absL] at h
    cases hv : absS v with
    | none => simp [hv] at h
    | some x =>
      cases hr : absL r with
      | none => simp [hv, hr] at h
      | some l => simp [hv, hr] at h; subst h; exact VRL_cons (absS_ok hv) (absL_ok hr)
theorem absS_one {v : Value} {a : AV} (h : absS v = some a) : AV.one a = true := by
  unfold absS at h
  split at h <;> first | (simp at h; subst h; rfl) | (simp at h)
theorem absL_one : ∀ {l : List Value} {a : List AV}, absL l = some a → ∀ x ∈ a, AV.one x = true
  | [], a, h => by simp [absL] at h; subst h; simp
  | v :: r, a, h => by
    simp only [absL] at h
    cases hv : absS v with
    | none => simp [hv] at h
    | some x =>
      cases hr : absL r with
      | none => simp [hv, hr] at h
      | some l =>
        simp [hv, hr] at h; subst h
        intro y hy
        rcases List.mem_cons.1 hy with rfl | hy
        · exact absS_one hv
        · exact absL_one hr y hy
theorem absV_ok {ρ : Rho} {v : Value} {a : AV} (h : absV v = some a) : VR ρ a v := by
  unfold absV at h
  split at h
  · rename_i cs
    cases hl : absL cs.toList with
    | none => simp [hl] at h
    | some l => simp [hl] at h; subst h; simp only [VR]; exact ⟨cs, rfl, absL_ok hl, absL_one hl⟩
  · rename_i f x y
    split at h
    · rename_i hh
      simp at h; subst h; simp only [VR, FR]
      refine ⟨.func f, x, y, rfl, rfl, ?_, ?_⟩
      · rw [Array.eq_empty_of_size_eq_zero hh.1]; exact VRL_nil
      · rw [Array.eq_empty_of_size_eq_zero hh.2]; exact VRL_nil
    · cases h
  · exact absS_ok h

section operands
variable {P : Program} {B : Nat} {w0 w : World} {ρ : Rho} {H : AH} {N : Nat} {T : Tm} {tmps : Array Value} {ds : List Deferred}
theorem cX_ok (hR : Rel P B w0 ρ H w) (hT : TR ρ N T tmps) {x : Operand} {a : XO} (h : cX P x = some a) : VR ρ (a.ev T) (Act.eval ⟨tmps, ds⟩ x) := by
  cases x with
  | tmp t => simp [cX] at h; subst h; exact hT.2 t
  | const v =>
    simp only [cX] at h
    cases hv : absV v with
    | none => simp [hv] at h
    | some b => simp [hv] at h; subst h; exact absV_ok hv
  | global g =>
    simp only [cX] at h
    split at h
    · rename_i hg
      simp at h; subst h
      obtain ⟨s, hs⟩ := hR.glob g hg
      simp only [XO.ev, Act.eval, VR]
      exact ⟨g, 0, s, hs, rfl⟩
    · cases h
  | func f =>
    simp [cX] at h; subst h
    simp only [XO.ev, Act.eval, VR, FR]
    exact ⟨_, _, _, rfl, rfl, VRL_nil, VRL_nil⟩
theorem cXL_ok (hR : Rel P B w0 ρ H w) (hT : TR ρ N T tmps) : ∀ {l : List Operand} {a : List XO}, cXL P l = some a → VRL ρ (a.map (·.ev T)) (l.map (Act.eval ⟨tmps, ds⟩))
  | [], a, h => by simp [cXL] at h; subst h; exact VRL_nil
  | x :: r, a, h => by
    simp only [cXL] at h
    cases hx : cX P x with
    | none => simp [hx] at h
    | some y =>
      cases hr : cXL P r with
      | none => simp [hx, hr] at h
      | some l => simp [hx, hr] at h; subst h; exact VRL_cons (cX_ok hR hT hx) (cXL_ok hR hT hr)
/-- What an optional operand stands for. -/
def VRO (ρ : Rho) : Option AV → Option Value → Prop
  | none, v => v = none
  | some a, v => ∃ c, v = some c ∧ VR ρ a c
theorem cXO_ok (hR : Rel P B w0 ρ H w) (hT : TR ρ N T tmps) {x : Option Operand} {a : Option XO} (h : cXO P x = some a) :
    VRO ρ (a.map (·.ev T)) (x.map (Act.eval ⟨tmps, ds⟩)) := by
  cases x with
  | none => simp [cXO] at h; subst h; simp [VRO]
  | some y =>
    simp only [cXO] at h
    cases hy : cX P y with
    | none => simp [hy] at h
    | some b => simp [hy] at h; subst h; exact ⟨_, rfl, cX_ok hR hT hy⟩
end operands

/-! ### Cells -/
theorem cell_of_blk {w : World} {k : Nat} {cs : Array Value} {t : TypeId} {fr : Nat × Nat} (h : w.heap[k]? = some (.cells cs t fr)) (j : Nat) :
    w.cell? ⟨k, j, none⟩ = cs[j]? := by simp [World.cell?, h]

theorem run_loadCellsFrom {P : Program} {w : World} {a : Addr} : ∀ (vs : List Value) (i : Nat) (acc : Array Value), (∀ j v, vs[j]? = some v → w.cell? (a.add (i + j)) = some v) →
    (loadCellsFrom a i vs.length acc).run P w = .ok (acc ++ vs.toArray) w
  | [], i, acc, _ => by simp [loadCellsFrom]
  | v :: vs, i, acc, h => by
    have h0 := h 0 v rfl
    simp only [Nat.add_zero] at h0
    simp only [List.length_cons, loadCellsFrom, Sem.run_bind, run_load, h0, Result.andThen_ok]
    rw [run_loadCellsFrom vs (i + 1) (acc.push v) fun j u e => by
      have := h (j + 1) u (by simpa using e)
      rw [show i + 1 + j = i + (j + 1) by omega]; exact this]
    simp [Array.push_append]
theorem run_loadCells {P : Program} {w : World} {a : Addr} (vs : List Value) (h : ∀ j v, vs[j]? = some v → w.cell? (a.add j) = some v) :
    (loadCells a vs.length).run P w = .ok vs.toArray w := by
  have := run_loadCellsFrom (P := P) vs 0 #[] (fun j v e => by simpa using h j v e)
  simpa [loadCells] using this

theorem takeAt_some {c : List AV} {o n : Nat} {l : List AV} (h : takeAt c o n = some l) : o + n ≤ c.length ∧ l = (c.drop o).take n ∧ l.length = n := by
  unfold takeAt at h
  split at h
  · rename_i hh; simp at h; subst h; refine ⟨hh, rfl, ?_⟩; simp; omega
  · cases h

/-- The values behind a stretch of a block's cells. -/
theorem CR_take {ρ : Rho} {c : List AV} {cs : Array Value} {o off n : Nat} {l : List AV} (hc : CR ρ c cs o) (h : takeAt c off n = some l) :
    ∃ vs : List Value, vs.length = n ∧ VRL ρ l vs ∧ ∀ j v, vs[j]? = some v → cs[o + off + j]? = some v := by
  obtain ⟨h1, rfl, h3⟩ := takeAt_some h
  have hget : ∀ i v, ((c.drop off).take n)[i]? = some v → ∃ cv, cs[o + off + i]? = some cv ∧ VR ρ v cv := fun i v e => by
    by_cases hi : i < n
    · rw [List.getElem?_take_of_lt hi, List.getElem?_drop] at e
      obtain ⟨cv, hcv, hv⟩ := hc _ _ e
      exact ⟨cv, by rw [← hcv]; congr 1; omega, hv⟩
    · rw [List.getElem?_take_eq_none (by omega)] at e; cases e
  have hlen : ∀ i, i < n → o + off + i < cs.size := fun i hi => by
    have : i < ((c.drop off).take n).length := by omega
    obtain ⟨cv, hcv, _⟩ := hget i _ (List.getElem?_eq_getElem this)
    exact (Array.getElem?_eq_some_iff.1 hcv).1
  refine ⟨(cs.toList.drop (o + off)).take n, ?_, ?_, ?_⟩
  · by_cases hn : n = 0
    · subst hn; simp
    · have := hlen (n - 1) (by omega)
      simp; omega
  · refine VRL_of_get ?_ fun i v e => ?_
    · rw [h3]
      by_cases hn : n = 0
      · subst hn; simp
      · have := hlen (n - 1) (by omega)
        simp; omega
    · obtain ⟨cv, hcv, hv⟩ := hget i v e
      refine ⟨cv, ?_, hv⟩
      have hi : i < n := by
        have := (List.getElem?_eq_some_iff.1 e).1
        omega
      rw [List.getElem?_take_of_lt hi, List.getElem?_drop, Array.getElem?_toList]; exact hcv
  · intro j v e
    have hj : j < n := by
      have := (List.getElem?_eq_some_iff.1 e).1
      simp at this; omega
    rw [List.getElem?_take_of_lt hj, List.getElem?_drop, Array.getElem?_toList] at e; exact e

theorem add_addr (k o n : Nat) : (⟨k, o, none⟩ : Addr).add n = ⟨k, o + n, none⟩ := by
  unfold Addr.add; split
  · rename_i h; subst h; rfl
  · rfl

/-- Reading a stretch of a block that has a name. -/
theorem run_loadCells_of {P : Program} {w : World} {ρ : Rho} {k o off n : Nat} {cs : Array Value} {t : TypeId} {fr : Nat × Nat} {c l : List AV} (hb : w.heap[k]? = some (.cells cs t fr)) (hc : CR ρ c cs o)
    (h : takeAt c off n = some l) : ∃ vs : List Value, VRL ρ l vs ∧ (loadCells ⟨k, o + off, none⟩ n).run P w = .ok vs.toArray w := by
  obtain ⟨vs, hl, hv, hg⟩ := CR_take hc h
  refine ⟨vs, hv, ?_⟩
  subst hl
  exact run_loadCells vs fun j v e => by rw [add_addr, cell_of_blk hb]; exact hg j v e

/-! ### Numbers -/
theorem ibits_ok {P : Program} {w : World} {op : BinOp} {k : IntKind} {x y r : Int} (h : ibits op k x y = some r) : (Op.intBits op k x y).run P w = .ok (.int k r) w := by
  unfold ibits at h
  cases op <;> simp at h <;> subst h <;> simp [Op.intBits]
theorem icmp_ok {P : Program} {w : World} {op : BinOp} {x y : Int} {r : Bool} (h : icmp op x y = some r) : (Op.intCmp op x y).run P w = .ok (.bool r) w := by
  unfold icmp at h
  cases op <;> simp only [Option.some.injEq, reduceCtorEq] at h <;> subst h <;> simp [Op.intCmp, bne, BEq.beq]
theorem pbin_ok {P : Program} {w : World} {ρ : Rho} {op : BinOp} {xt : TypeId} {x y r : AV} {a b : Value} (hx : VR ρ x a) (hy : VR ρ y b) (h : pbin op x y = some r) :
    ∃ c, (Go.binOp op xt a b).run P w = .ok c w ∧ VR ρ r c := by
  unfold pbin at h
  split at h
  · rename_i k m l n
    simp only [VR] at hx hy; subst hx; subst hy
    cases op <;> simp only at h
    case add | sub | mul =>
      split at h
      · rename_i hk; subst hk; simp only [Option.some.injEq] at h; subst h
        refine ⟨.int k _, ?_, by simp only [VR]; rfl⟩
        simp [Go.binOp, Op.intArith]
      · cases h
    case quo | rem =>
      split at h
      · rename_i hk; subst hk
        split at h
        · cases h
        · rename_i hz; simp only [Option.some.injEq] at h; subst h
          refine ⟨.int k _, ?_, by simp only [VR]; rfl⟩
          simp [Go.binOp, Op.intDiv, hz]
      · cases h
    case and | or | xor | andNot =>
      split at h
      · rename_i hk; subst hk
        simp only [Option.map_eq_some_iff] at h
        obtain ⟨z, hz, rfl⟩ := h
        refine ⟨.int k z, ?_, by simp [VR]⟩
        have := ibits_ok (P := P) (w := w) hz
        simpa [Go.binOp] using this
      · cases h
    case shl | shr =>
      split at h
      · cases h
      · rename_i hz; simp only [Option.some.injEq] at h; subst h
        refine ⟨.int k _, ?_, by simp only [VR]; rfl⟩
        simp [Go.binOp, Op.shift, hz]
    case eql | neq | lss | leq | gtr | geq =>
      split at h
      · rename_i hk; subst hk
        simp only [Option.map_eq_some_iff] at h
        obtain ⟨z, hz, rfl⟩ := h
        refine ⟨.bool z, ?_, by simp [VR]⟩
        have := icmp_ok (P := P) (w := w) hz
        simpa [Go.binOp] using this
      · cases h
  · simp only [VR] at hx hy; subst hx; subst hy
    cases op <;> simp only [reduceCtorEq] at h
    case add =>
      split at h
      · cases h
      · rename_i hz; simp only [Option.some.injEq] at h; subst h
        refine ⟨.string _, ?_, by simp only [VR]; rfl⟩
        simp only [Go.binOp, Op.stringOp]
        rw [if_neg hz]; rfl
    case eql => simp only [Option.some.injEq] at h; subst h; exact ⟨.bool _, rfl, by simp only [VR]⟩
    case neq => simp only [Option.some.injEq] at h; subst h; exact ⟨.bool _, rfl, by simp only [VR]⟩
  · cases h
end Go.Proofs.Ytjheedfobmlalaa.E
