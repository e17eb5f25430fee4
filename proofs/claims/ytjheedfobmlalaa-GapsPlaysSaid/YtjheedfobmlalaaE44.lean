/- Maps whose keys are texts, as lists. It bears no condition. -/
import Derived.Test.YtjheedfobmlalaaE43
namespace Go.Proofs.Ytjheedfobmlalaa.E
set_option linter.unusedVariables false
set_option linter.unusedSimpArgs false
abbrev ML := List (List UInt8 × AV)
/-- A block that holds a map. -/
def Mb (m : ML) (b : Blk) : Prop := ∃ es cl, b = .map es cl ∧ es.map (fun e => (e.1, e.2.1)) = m.map (fun p => (AV.s (txt p.1), p.2))
theorem Mb.nil : Mb [] (.map [] 0) := ⟨[], 0, rfl, rfl⟩
section
variable {H : AH} {T : Tm} {cf : CallF} {x y z : XO} {m : ML} {b : Blk} {r : Nat} {k : List UInt8} {R : HL} {zv : AV}
theorem set_hs {b2 : Blk} (hH : Hs H ([(r, some b)] ++ R)) : Hs (H.set r b2) ([(r, some b2)] ++ R) := hH.wr ⟨rfl, AH.set_same _ _ _, fun m h => AH.set_other _ _ (Ne.symm h)⟩
end
theorem D_nh {tab : Nat → Option XFun} {sp : Nat → List AV → AH → Option (AV × AH)} {T : Tm} {H : AH} {R : Tm → AH → Prop} {base : Nat} {W : List Watch} {op : XOp} {ix : Nat} {bef : List Nat} {l : List XOper} {P : AH → Prop} (hm : op.mk = false) (he : op.eff = true) (h : ∃ v H', op.run noCall T H = some (v, H') ∧ P H') (k : ∀ H', P H' → WF H' bef W ∧ D tab sp base l (W.filter fun x => !bef.contains x.ix) T H' R) : D tab sp base (⟨none, op, none, ix, bef⟩ :: l) W T H R := by
  obtain ⟨v, H', h, p⟩ := h; exact D_en hm he h (k H' p).1 (k H' p).2
theorem O_mkmap {tab : Nat → Option XFun} {sp : Nat → List AV → AH → Option (AV × AH)} {T : Tm} {H : AH} {R : Tm → AH → Prop} {d : Nat} {ix : Nat} {bef : List Nat} {l : List XOper} (k : ∀ n H', New H n (.map [] 0) H' → O tab sp l ((d, .m (some n)) :: T) H' R) : O tab sp (⟨some d, .mkmap, none, ix, bef⟩ :: l) T H R :=
  O_s rfl (k _ _ ⟨rfl, rfl, AH.alloc_new _ _, fun m h => by rw [AH.get_alloc, if_neg (Ne.symm h)]⟩)
/-! Maps as functions. -/
end Go.Proofs.Ytjheedfobmlalaa.E
