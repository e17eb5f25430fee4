/- Maps whose keys are texts, as lists. It bears no condition. -/
import Derived.Test.YtjheedfobmlalaaE43
namespace Go.Proofs.Ytjheedfobmlalaa.E
set_option linter.unusedVariables false
set_option linter.unusedSimpArgs false
abbrev ML := List (List UInt8 × AV)
def mget : ML → List UInt8 → Option AV
  | [], _ => none
  | p :: m, k => if p.1 = k then some p.2 else mget m k
def mset : ML → List UInt8 → AV → ML
  | [], k, v => [(k, v)]
  | p :: m, k, v => if p.1 = k then (k, v) :: m else p :: mset m k v
def mdel : ML → List UInt8 → ML
  | [], _ => []
  | p :: m, k => if p.1 = k then m else p :: mdel m k
/-- A block that holds a map. -/
def Mb (m : ML) (b : Blk) : Prop := ∃ es cl, b = .map es cl ∧ es.map (fun e => (e.1, e.2.1)) = m.map (fun p => (AV.s (txt p.1), p.2))
theorem Mb.nil : Mb [] (.map [] 0) := ⟨[], 0, rfl, rfl⟩
theorem key_eq (H : AH) (a b : List UInt8) : keyEqH H 1 (.s (txt a)) (.s (txt b)) = some (decide (a = b)) := by
  have h : (txt a == txt b) = decide (a = b) := by
    have e : (txt a == txt b) = ((txt a).data == (txt b).data) := by rfl
    rw [e, Bool.eq_iff_iff, beq_iff_eq, decide_eq_true_eq]
    constructor
    · intro h
      have := congrArg Array.toList h
      simpa only [txt_data] using this
    · intro h; rw [h]
  show some (txt a == txt b) = _
  rw [h]
theorem mfind_get {H : AH} : ∀ {es : List (AV × AV × Nat)} {m : ML} {k : List UInt8} {i : Nat}, es.map (fun e => (e.1, e.2.1)) = m.map (fun p => (AV.s (txt p.1), p.2)) → (mfind H 1 (.s (txt k)) es i).map (fun o => o.map (·.2)) = some (mget m k)
  | [], [], k, i, _ => rfl
  | [], _ :: _, k, i, h => by simp at h
  | _ :: _, [], k, i, h => by simp at h
  | (a, v, c) :: es, (q, w) :: m, k, i, h => by
    simp only [List.map_cons, List.cons.injEq, Prod.mk.injEq] at h
    obtain ⟨⟨rfl, rfl⟩, h⟩ := h
    unfold mfind mget
    rw [key_eq]
    by_cases hk : k = q
    · subst hk; simp
    · rw [decide_eq_false hk]
      simp only
      rw [if_neg (fun e => hk e.symm)]
      exact mfind_get h
theorem mfind_put {H : AH} : ∀ {es : List (AV × AV × Nat)} {m : ML} {k : List UInt8} (i cl : Nat) (v : AV), es.map (fun e => (e.1, e.2.1)) = m.map (fun p => (AV.s (txt p.1), p.2)) →
    ∃ es', ((∃ j w, mfind H 1 (.s (txt k)) es i = some (some (j + i, w)) ∧ es' = es.modify j fun e => (.s (txt k), v, e.2.2)) ∨ (mfind H 1 (.s (txt k)) es i = some none ∧ es' = es ++ [(.s (txt k), v, cl)])) ∧ es'.map (fun e => (e.1, e.2.1)) = (mset m k v).map (fun p => (AV.s (txt p.1), p.2))
  | [], [], k, i, cl, v, _ => ⟨_, .inr ⟨rfl, rfl⟩, rfl⟩
  | [], _ :: _, k, i, cl, v, h => by simp at h
  | _ :: _, [], k, i, cl, v, h => by simp at h
  | (a, u, c) :: es, (q, w) :: m, k, i, cl, v, h => by
    simp only [List.map_cons, List.cons.injEq, Prod.mk.injEq] at h
    obtain ⟨⟨rfl, rfl⟩, h⟩ := h
    unfold mfind mset
    rw [key_eq]
    by_cases hk : k = q
    · subst hk
      refine ⟨_, .inl ⟨0, u, by simp, rfl⟩, ?_⟩
      simp [h]
    · rw [decide_eq_false hk]
      simp only
      rw [if_neg (fun e => hk e.symm)]
      obtain ⟨es', h1, h2⟩ := mfind_put (es := es) (m := m) (k := k) (i + 1) cl v h
      refine ⟨(AV.s (txt q), u, c) :: es', ?_, ?_⟩
      · rcases h1 with ⟨j, x, h3, rfl⟩ | ⟨h3, rfl⟩
        · exact .inl ⟨j + 1, x, by rw [h3]; congr 3; omega, by rw [List.modify_succ_cons]⟩
        · exact .inr ⟨h3, rfl⟩
      · rw [List.map_cons, List.map_cons, h2]
theorem mfind_del {H : AH} : ∀ {es : List (AV × AV × Nat)} {m : ML} {k : List UInt8} (i : Nat), es.map (fun e => (e.1, e.2.1)) = m.map (fun p => (AV.s (txt p.1), p.2)) →
    ∃ es', ((∃ j w, mfind H 1 (.s (txt k)) es i = some (some (j + i, w)) ∧ es' = es.eraseIdx j) ∨ (mfind H 1 (.s (txt k)) es i = some none ∧ es' = es)) ∧ es'.map (fun e => (e.1, e.2.1)) = (mdel m k).map (fun p => (AV.s (txt p.1), p.2))
  | [], [], k, i, _ => ⟨_, .inr ⟨rfl, rfl⟩, rfl⟩
  | [], _ :: _, k, i, h => by simp at h
  | _ :: _, [], k, i, h => by simp at h
  | (a, u, c) :: es, (q, w) :: m, k, i, h => by
    simp only [List.map_cons, List.cons.injEq, Prod.mk.injEq] at h
    obtain ⟨⟨rfl, rfl⟩, h⟩ := h
    unfold mfind mdel
    rw [key_eq]
    by_cases hk : k = q
    · subst hk
      refine ⟨_, .inl ⟨0, u, by simp, rfl⟩, ?_⟩
      simp [h]
    · rw [decide_eq_false hk]
      simp only
      rw [if_neg (fun e => hk e.symm)]
      obtain ⟨es', h1, h2⟩ := mfind_del (es := es) (m := m) (k := k) (i + 1) h
      refine ⟨(AV.s (txt q), u, c) :: es', ?_, ?_⟩
      · rcases h1 with ⟨j, x, h3, rfl⟩ | ⟨h3, rfl⟩
        · exact .inl ⟨j + 1, x, by rw [h3]; congr 3; omega, by rw [List.eraseIdx_cons_succ]⟩
        · exact .inr ⟨h3, rfl⟩
      · rw [List.map_cons, List.map_cons, h2]
section
variable {H : AH} {T : Tm} {cf : CallF} {x y z : XO} {m : ML} {b : Blk} {r : Nat} {k : List UInt8} {R : HL} {zv : AV}
theorem r_mget (hb : H.get r = some b) (hm : Mb m b) (hx : x.ev T = .m (some r)) (hk : y.ev T = .s (txt k)) (ok : Bool) : (XOp.lookup 1 zv x y ok).run cf T H = some ((match mget m k with | some v => if ok then .tup [v, .b true] else v | none => if ok then .tup [zv, .b false] else zv), H) := by
  obtain ⟨es, cl, rfl, he⟩ := hm
  have h := mfind_get (H := H) (k := k) (i := 0) he
  simp only [XOp.run, XOp.look, hx, hk, keyOk, hb, Bool.true_eq_false, if_false, h]
  cases mget m k <;> rfl
theorem r_mget0 (hx : x.ev T = .m none) (hk : y.ev T = .s (txt k)) (ok : Bool) : (XOp.lookup 1 zv x y ok).run cf T H = some ((if ok then .tup [zv, .b false] else zv), H) := by
  simp only [XOp.run, XOp.look, hx, hk, keyOk, Bool.true_eq_false, if_false, Option.map_some]
theorem r_mlen (hb : H.get r = some b) (hm : Mb m b) (hx : x.ev T = .m (some r)) : (XOp.lenm x).run cf T H = some (.i .i64 ((m.length : Nat) : Int), H) := by
  obtain ⟨es, cl, rfl, he⟩ := hm
  have hl : es.length = m.length := by have := congrArg List.length he; simpa using this
  simp only [XOp.run, XOp.look, hx, hb, hl, Option.map_some]
theorem set_hs {b2 : Blk} (hH : Hs H ([(r, some b)] ++ R)) : Hs (H.set r b2) ([(r, some b2)] ++ R) := hH.wr ⟨rfl, AH.set_same _ _ _, fun m h => AH.set_other _ _ (Ne.symm h)⟩
theorem r_mput {v : AV} (hH : Hs H ([(r, some b)] ++ R)) (hm : Mb m b) (hx : x.ev T = .m (some r)) (hk : y.ev T = .s (txt k)) (hv : z.ev T = v) : ∃ u H', (XOp.mput 1 x y z).run cf T H = some (u, H') ∧ ∃ b', Mb (mset m k v) b' ∧ Hs H' ([(r, some b')] ++ R) := by
  obtain ⟨es, cl, rfl, he⟩ := hm
  obtain ⟨es', h1, h2⟩ := mfind_put (H := H) (k := k) 0 cl v he
  rcases h1 with ⟨j, w, h3, h4⟩ | ⟨h3, h4⟩
  · refine ⟨und, H.set r (.map es' cl), ?_, _, ⟨es', cl, rfl, h2⟩, set_hs hH⟩
    simp only [XOp.run, XOp.turn, hx, hk, hv, keyOk, hH.get, Bool.true_eq_false, if_false, h3, h4, Nat.add_zero]
  · refine ⟨und, H.set r (.map es' (cl + 1)), ?_, _, ⟨es', cl + 1, rfl, h2⟩, set_hs hH⟩
    simp only [XOp.run, XOp.turn, hx, hk, hv, keyOk, hH.get, Bool.true_eq_false, if_false, h3, h4]
theorem r_mdel (hH : Hs H ([(r, some b)] ++ R)) (hm : Mb m b) (hx : x.ev T = .m (some r)) (hk : y.ev T = .s (txt k)) : ∃ u H', (XOp.del 1 x y).run cf T H = some (u, H') ∧ ∃ b', Mb (mdel m k) b' ∧ Hs H' ([(r, some b')] ++ R) := by
  obtain ⟨es, cl, rfl, he⟩ := hm
  obtain ⟨es', h1, h2⟩ := mfind_del (H := H) (k := k) 0 he
  rcases h1 with ⟨j, w, h3, h4⟩ | ⟨h3, h4⟩
  · refine ⟨und, H.set r (.map es' cl), ?_, _, ⟨es', cl, rfl, h2⟩, set_hs hH⟩
    simp only [XOp.run, XOp.turn, hx, hk, keyOk, hH.get, Bool.true_eq_false, if_false, h3, h4, Nat.add_zero]
  · subst h4
    refine ⟨und, H, ?_, _, ⟨es', cl, rfl, h2⟩, hH⟩
    simp only [XOp.run, XOp.turn, hx, hk, keyOk, hH.get, Bool.true_eq_false, if_false, h3]
end
theorem D_nh {tab : Nat → Option XFun} {sp : Nat → List AV → AH → Option (AV × AH)} {T : Tm} {H : AH} {R : Tm → AH → Prop} {base : Nat} {W : List Watch} {op : XOp} {ix : Nat} {bef : List Nat} {l : List XOper} {P : AH → Prop} (hm : op.mk = false) (he : op.eff = true) (h : ∃ v H', op.run noCall T H = some (v, H') ∧ P H') (k : ∀ H', P H' → WF H' bef W ∧ D tab sp base l (W.filter fun x => !bef.contains x.ix) T H' R) : D tab sp base (⟨none, op, none, ix, bef⟩ :: l) W T H R := by
  obtain ⟨v, H', h, p⟩ := h; exact D_en hm he h (k H' p).1 (k H' p).2
theorem O_mkmap {tab : Nat → Option XFun} {sp : Nat → List AV → AH → Option (AV × AH)} {T : Tm} {H : AH} {R : Tm → AH → Prop} {d : Nat} {ix : Nat} {bef : List Nat} {l : List XOper} (k : ∀ n H', New H n (.map [] 0) H' → O tab sp l ((d, .m (some n)) :: T) H' R) : O tab sp (⟨some d, .mkmap, none, ix, bef⟩ :: l) T H R :=
  O_s rfl (k _ _ ⟨rfl, rfl, AH.alloc_new _ _, fun m h => by rw [AH.get_alloc, if_neg (Ne.symm h)]⟩)
/-! Maps as functions. -/
theorem mget_set (m : ML) (k k2 : List UInt8) (v : AV) : mget (mset m k v) k2 = if k = k2 then some v else mget m k2 := by
  induction m with
  | nil => unfold mset mget mget; rfl
  | cons p m ih =>
    unfold mset
    by_cases h : p.1 = k
    · rw [if_pos h]
      unfold mget
      by_cases h2 : k = k2
      · rw [if_pos h2, if_pos h2]
      · rw [if_neg h2, if_neg h2, if_neg (by rw [h]; exact h2)]
    · rw [if_neg h]
      unfold mget
      rw [ih]
      by_cases h2 : p.1 = k2
      · rw [if_pos h2, if_pos h2, if_neg (by rw [← h2]; exact fun e => h e.symm)]
      · rw [if_neg h2, if_neg h2]
end Go.Proofs.Ytjheedfobmlalaa.E
