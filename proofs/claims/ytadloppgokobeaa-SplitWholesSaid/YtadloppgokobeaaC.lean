/- Chunks' cells. It bears no condition. -/
import Derived.Test.YtadloppgokobeaaS
namespace Go.Proofs.Ytadloppgokobeaa.E
set_option linter.unusedVariables false
set_option linter.unusedSimpArgs false
theorem globals0 : Try.prog.globals.size = 0 := by kernel_rfl
theorem mixed : Try.prog.follows .mixedOrders = true := by kernel_rfl
theorem laid : laidOutB Try.prog = true := by kernel_rfl
def tabA := without [7] tab
theorem tabA_ok : TabOK Try.prog tabA := without_ok tab_ok
def spA := withSp 7 [] (.b true) noSp
theorem spA_ok : SpOK Try.prog tabA spA := withSp_ok (k := 300) (f := 7) (args := []) (v := .b true) mixed globals0 tab_ok noSp_ok (by kernel_rfl) rfl rfl noSp_ok
def Ck.ok (x : Ck) : Prop := (0 ≤ x.k ∧ x.k < 256) ∧ (0 ≤ x.f ∧ x.f < 256) ∧ (0 ≤ x.a ∧ x.a < 4294967296) ∧ x.d.length ≤ 1073741824
/-- A chunk's cells, its octets being in B. -/
def CkRow (z : Bool) (B : HL) (r : List AV) (x : Ck) : Prop := ∃ (b : Int) (bl du sk pa : AV) (a : Option (Nat × Nat)) (cap g : Nat), r = [.i .u8 x.k, .i .u8 x.f, .i .u32 x.a, .i .u32 b, .i .u16 x.o, .i .u16 x.i, .i .u32 x.p, bl, du, sk, pa, .sl a x.d.length cap g] ∧ (g = 0 ∨ g = 1) ∧ x.d.length ≤ cap ∧ cap ≤ 9223372036854775807 ∧ x.ok ∧ (z = true → b = 0 ∧ bl = .sl none 0 0 0 ∧ du = .sl none 0 0 0 ∧ sk = .sl none 0 0 0 ∧ pa = .sl none 0 0 0) ∧ ∀ H', Hs H' B → Bs H' (.sl a x.d.length cap g) x.d
def CksR (z : Bool) (B : HL) (rows : List (List AV)) (cs : List Ck) : Prop := rows.length = cs.length ∧ ∀ (i : Nat) (x : Ck), cs[i]? = some x → ∃ r, rows[i]? = some r ∧ CkRow z B r x
def Cks (z : Bool) (B : HL) (v : AV) (cs : List Ck) : Prop := ∃ rows, (∀ H', Hs H' B → Rw 12 H' v rows) ∧ CksR z B rows cs
theorem CkRow.mono {z : Bool} {A B : HL} {r : List AV} {x : Ck} (h : CkRow z A r x) (hs : ∀ H', Hs H' B → Hs H' A) : CkRow z B r x := by
  obtain ⟨b, bl, du, sk, pa, a, cap, g, h1, h2, h3, h4, h5, h6, h7⟩ := h
  exact ⟨b, bl, du, sk, pa, a, cap, g, h1, h2, h3, h4, h5, h6, fun H' hh => h7 H' (hs H' hh)⟩
theorem CkRow.len {z : Bool} {B : HL} {r : List AV} {x : Ck} (h : CkRow z B r x) : r.length = 12 := by
  obtain ⟨b, bl, du, sk, pa, a, cap, g, rfl, _⟩ := h; rfl
theorem CksR.mono {z : Bool} {A B : HL} {rows : List (List AV)} {cs : List Ck} (h : CksR z A rows cs) (hs : ∀ H', Hs H' B → Hs H' A) : CksR z B rows cs := ⟨h.1, fun i x hx => by
  obtain ⟨r, h1, h2⟩ := h.2 i x hx
  exact ⟨r, h1, h2.mono hs⟩⟩
theorem Cks.mono {z : Bool} {A B : HL} {v : AV} {cs : List Ck} (h : Cks z A v cs) (hs : ∀ H', Hs H' B → Hs H' A) : Cks z B v cs := by
  obtain ⟨rows, h1, h2⟩ := h
  exact ⟨rows, fun H' hh => h1 H' (hs H' hh), h2.mono hs⟩
theorem CksR.nil {z : Bool} {B : HL} : CksR z B [] [] := ⟨rfl, fun i x h => by simp at h⟩
theorem CksR.snoc {z : Bool} {B : HL} {rows : List (List AV)} {cs : List Ck} {r : List AV} {x : Ck} (h : CksR z B rows cs) (hr : CkRow z B r x) : CksR z B (rows ++ [r]) (cs ++ [x]) := by
  refine ⟨by rw [List.length_append, List.length_append, h.1]; rfl, fun i y hy => ?_⟩
  by_cases hi : i < cs.length
  · rw [List.getElem?_append_left hi] at hy
    obtain ⟨q, h1, h2⟩ := h.2 i y hy
    exact ⟨q, by rw [List.getElem?_append_left (by rw [h.1]; exact hi)]; exact h1, h2⟩
  · rw [List.getElem?_append_right (by omega)] at hy
    have hlt := (List.getElem?_eq_some_iff.1 hy).1
    have e : i - cs.length = 0 := by simp at hlt; omega
    rw [e] at hy
    simp only [List.getElem?_cons_zero, Option.some.injEq] at hy
    subst hy
    exact ⟨r, by rw [List.getElem?_append_right (by rw [h.1]; omega), h.1, e]; rfl, hr⟩
theorem CksR.set {z : Bool} {B : HL} {rows : List (List AV)} {cs : List Ck} {r : List AV} {x : Ck} {k : Nat} (h : CksR z B rows cs) (hr : CkRow z B r x) : CksR z B (rows.set k r) (cs.set k x) := by
  refine ⟨by rw [List.length_set, List.length_set, h.1], fun i y hy => ?_⟩
  rw [List.getElem?_set] at hy ⊢
  by_cases hik : k = i
  · subst hik
    rw [if_pos rfl] at hy ⊢
    split at hy
    · rename_i hlt
      simp only [Option.some.injEq] at hy; subst hy
      rw [if_pos (by rw [h.1]; exact hlt)]
      exact ⟨r, rfl, hr⟩
    · cases hy
  · rw [if_neg hik] at hy ⊢
    exact h.2 i y hy
theorem CksR.lens {z : Bool} {B : HL} {rows : List (List AV)} {cs : List Ck} (h : CksR z B rows cs) : ∀ r ∈ rows, r.length = 12 := fun r hr => by
  obtain ⟨i, hi, rfl⟩ := List.getElem_of_mem hr
  have hi' : i < cs.length := by rw [← h.1]; exact hi
  obtain ⟨q, h1, h2⟩ := h.2 i cs[i] (List.getElem?_eq_getElem hi')
  rw [List.getElem?_eq_getElem hi] at h1
  cases h1; exact h2.len
theorem Cks.drop {z : Bool} {B : HL} {v v' : AV} {rows : List (List AV)} {cs : List Ck} {k : Nat} (h1 : ∀ H', Hs H' B → Rw 12 H' v rows) (h2 : CksR z B rows cs) (hv : ∀ H1, Rw 12 H1 v rows → Rw 12 H1 v' (rows.drop k)) : Cks z B v' (cs.drop k) :=
  ⟨rows.drop k, fun H' hh => hv H' (h1 H' hh), by rw [List.length_drop, List.length_drop, h2.1], fun i x hx => by
    rw [List.getElem?_drop] at hx ⊢; exact h2.2 _ _ hx⟩
theorem Cks.take {z : Bool} {B : HL} {v v' : AV} {rows : List (List AV)} {cs : List Ck} {k : Nat} (h1 : ∀ H', Hs H' B → Rw 12 H' v rows) (h2 : CksR z B rows cs) (hv : ∀ H1, Rw 12 H1 v rows → Rw 12 H1 v' (rows.take k)) : Cks z B v' (cs.take k) :=
  ⟨rows.take k, fun H' hh => hv H' (h1 H' hh), by rw [List.length_take, List.length_take, h2.1], fun i x hx => by
    rw [List.getElem?_take] at hx ⊢
    split at hx
    · rename_i hlt; rw [if_pos hlt]; exact h2.2 _ _ hx
    · cases hx⟩
theorem Cks.sq {z : Bool} {B : HL} {v : AV} {c : List AV} {rows : List (List AV)} {cs : List Ck} (h : Sq 12 v c rows.flatten) (hr : CksR z B rows cs) : Cks z (qseg v c ++ B) v cs :=
  ⟨rows, fun H' hh => h.rd hh hr.lens (by decide), hr.mono fun H' hh => hh.sub⟩
theorem bit1 {f : Int} (h : 0 ≤ f ∧ f < 256) : IntKind.u8.wrap ((BitVec.ofInt 8 f &&& BitVec.ofInt 8 1).toNat : Int) = f % 2 := by
  obtain ⟨n, rfl⟩ : ∃ n : Nat, f = n := ⟨f.toNat, by omega⟩
  have := (by decide +kernel : ∀ n : Fin 256, IntKind.u8.wrap ((BitVec.ofInt 8 (n.val : Int) &&& BitVec.ofInt 8 1).toNat : Int) = (n.val : Int) % 2) ⟨n, by omega⟩
  exact this
theorem bit2 {f : Int} (h : 0 ≤ f ∧ f < 256) : IntKind.u8.wrap ((BitVec.ofInt 8 f &&& BitVec.ofInt 8 2).toNat : Int) = 2 * (f / 2 % 2) := by
  obtain ⟨n, rfl⟩ : ∃ n : Nat, f = n := ⟨f.toNat, by omega⟩
  have := (by decide +kernel : ∀ n : Fin 256, IntKind.u8.wrap ((BitVec.ofInt 8 (n.val : Int) &&& BitVec.ofInt 8 2).toNat : Int) = 2 * ((n.val : Int) / 2 % 2)) ⟨n, by omega⟩
  exact this
theorem bit4 {f : Int} (h : 0 ≤ f ∧ f < 256) : IntKind.u8.wrap ((BitVec.ofInt 8 f &&& BitVec.ofInt 8 4).toNat : Int) = 4 * (f / 4 % 2) := by
  obtain ⟨n, rfl⟩ : ∃ n : Nat, f = n := ⟨f.toNat, by omega⟩
  have := (by decide +kernel : ∀ n : Fin 256, IntKind.u8.wrap ((BitVec.ofInt 8 (n.val : Int) &&& BitVec.ofInt 8 4).toNat : Int) = 4 * ((n.val : Int) / 4 % 2)) ⟨n, by omega⟩
  exact this
theorem bitx {f g : Int} (h : 0 ≤ f ∧ f < 256) (k : 0 ≤ g ∧ g < 256) : (IntKind.u8.wrap ((BitVec.ofInt 8 (IntKind.u8.wrap ((BitVec.ofInt 8 f ^^^ BitVec.ofInt 8 g).toNat : Int)) &&& BitVec.ofInt 8 4).toNat : Int) = 0) = (f / 4 % 2 = g / 4 % 2) := by
  have hw : ∀ b : BitVec 8, IntKind.u8.wrap (b.toNat : Int) = b.toNat := fun b => by rw [wrap_u8]; have := b.isLt; omega
  have ho : ∀ b : BitVec 8, BitVec.ofInt 8 (b.toNat : Int) = b := fun b => by rw [BitVec.ofInt_natCast]; simp
  have e1 := bit4 h
  have e2 := bit4 k
  rw [hw] at e1 e2
  rw [hw, hw, ho]
  have ex : ∀ F G K : BitVec 8, (F ^^^ G) &&& K = (F &&& K) ^^^ (G &&& K) := fun F G K => by
    ext i hi; simp only [BitVec.getElem_and, BitVec.getElem_xor]; cases F[i] <;> cases G[i] <;> cases K[i] <;> rfl
  rw [ex]
  apply propext
  constructor
  · intro h0
    have h1 : (BitVec.ofInt 8 f &&& BitVec.ofInt 8 4) ^^^ (BitVec.ofInt 8 g &&& BitVec.ofInt 8 4) = 0#8 := BitVec.eq_of_toNat_eq (by simpa using (by omega : ((BitVec.ofInt 8 f &&& BitVec.ofInt 8 4) ^^^ (BitVec.ofInt 8 g &&& BitVec.ofInt 8 4)).toNat = 0))
    have h2 := BitVec.xor_eq_zero_iff.1 h1
    rw [h2] at e1; omega
  · intro h0
    have h2 : BitVec.ofInt 8 f &&& BitVec.ofInt 8 4 = BitVec.ofInt 8 g &&& BitVec.ofInt 8 4 := BitVec.eq_of_toNat_eq (by omega)
    rw [h2, BitVec.xor_self]; rfl
/-- What message chunks are: stream, unordered, protocol, octets. -/
structure Ms where
  o : Int
  u : Bool
  p : Int
  d : List UInt8
def msgS (cs : List Ck) : Ms := if isM cs then (match cs with | [] => ⟨0, false, 0, []⟩ | x :: _ => ⟨x.o, decide (x.f / 4 % 2 = 1), x.p, (cs.map Ck.d).flatten⟩) else ⟨0, false, 0, []⟩
theorem chain_snoc {l : List Ck} {i : Nat} (h : chain (l.take i) = true) {y : Ck} (hy : l[i]? = some y) (hf : i = 0 ∨ ∃ x, l[i - 1]? = some x ∧ follows x y = true) : chain (l.take (i + 1)) = true := by
  rw [chain_iff] at h ⊢
  intro j a b ha hb
  rw [List.getElem?_take] at ha hb
  split at ha <;> split at hb
  · by_cases hj : j + 1 < i
    · exact h j a b (by rw [List.getElem?_take, if_pos (by omega)]; exact ha) (by rw [List.getElem?_take, if_pos hj]; exact hb)
    · have e : j + 1 = i := by omega
      subst e
      rcases hf with h0 | ⟨x, hx, hf⟩
      · omega
      · rw [show j + 1 - 1 = j by omega, ha] at hx
        rw [hy] at hb
        cases hx; cases hb; exact hf
  all_goals simp at *
theorem ck_take {l : List Ck} {i : Nat} {x : Ck} (hx : l[i]? = some x) : ((l.take (i + 1)).map Ck.d).flatten = ((l.take i).map Ck.d).flatten ++ x.d := by
  obtain ⟨hi, rfl⟩ := List.getElem?_eq_some_iff.1 hx
  rw [List.take_succ_eq_append_getElem hi, List.map_append, List.flatten_append]; simp
theorem ck_le {l : List Ck} {i : Nat} : ((l.take i).map Ck.d).flatten.length ≤ (l.map Ck.d).flatten.length := by
  conv => rhs; rw [← List.take_append_drop i l, List.map_append, List.flatten_append, List.length_append]
  omega
theorem starts_iff {x : Ck} {cs : List Ck} {y : Ck} (h0 : cs[0]? = some x) (h1 : cs[cs.length - 1]? = some y) : startsM cs = (decide (x.k = 0) && decide (x.f / 2 % 2 = 1) && decide (y.f % 2 = 1)) := by
  unfold startsM
  rw [List.head?_eq_getElem?, h0, List.getLast?_eq_getElem?, h1]
theorem msgS_ok {cs : List Ck} {x : Ck} (h : isM cs = true) (h0 : cs[0]? = some x) : msgS cs = ⟨x.o, decide (x.f / 4 % 2 = 1), x.p, (cs.map Ck.d).flatten⟩ := by
  unfold msgS
  rw [if_pos h]
  cases cs with
  | nil => cases h0
  | cons y r => simp only [List.getElem?_cons_zero, Option.some.injEq] at h0; subst h0; rfl
theorem msgS_no {cs : List Ck} (h : isM cs = false) : msgS cs = ⟨0, false, 0, []⟩ := by
  unfold msgS; rw [if_neg (by rw [h]; decide)]
theorem isM_ok {cs : List Ck} {x y : Ck} (h0 : cs[0]? = some x) (h1 : cs[cs.length - 1]? = some y) (hk : x.k = 0) (hf : ¬ x.f / 2 % 2 = 0) (hl : ¬ y.f % 2 = 0) (hc : chain cs = true) : isM cs = true := by
  unfold isM
  rw [starts_iff h0 h1, hc, decide_eq_true hk, decide_eq_true (by omega), decide_eq_true (by omega)]; rfl
theorem isM_no {cs : List Ck} {x y : Ck} (h0 : cs[0]? = some x) (h1 : cs[cs.length - 1]? = some y) (h : ¬ x.k = 0 ∨ x.f / 2 % 2 = 0 ∨ y.f % 2 = 0) : isM cs = false := by
  unfold isM
  rw [starts_iff h0 h1]
  rcases h with h | h | h
  · rw [decide_eq_false h]; rfl
  · rw [decide_eq_false (p := x.f / 2 % 2 = 1) (by omega), Bool.and_false]; rfl
  · rw [decide_eq_false (p := y.f % 2 = 1) (by omega), Bool.and_false]; rfl
theorem nPcs_lt {n k i : Nat} (hk : 0 < k) : i < nPcs n k ↔ i * k < n := by
  unfold nPcs
  rw [Nat.lt_iff_add_one_le, Nat.le_div_iff_mul_le hk, Nat.add_mul, Nat.one_mul]; omega
theorem O_callv {tab : Nat → Option XFun} {sp : Nat → List AV → AH → Option (AV × AH)} {T : Tm} {H : AH} {R : Tm → AH → Prop} {d : Nat} {f : XO} {args : List XO} {ix : Nat} {bef : List Nat} {l : List XOper} {F : AV} {as' : List AV} (hf : f.ev T = F) (ha : args.map (·.ev T) = as') (h : Ev tab sp F as' H (fun v H' => O tab sp l ((d, v) :: T) H' R)) : O tab sp (⟨some d, .call f args, none, ix, bef⟩ :: l) T H R := O_call (by rw [hf, ha]; exact h)
theorem pieceD_len {k : Nat} {l : List UInt8} {i : Nat} : (pieceD k l i).length = min k (l.length - i * k) := by unfold pieceD; rw [List.length_take, List.length_drop]
def splitE (n : Nat) (most : Int) : Int := if n = 0 ∨ most < 1 ∨ most > 1172 then 1 else if n > 16384 then 10 else 0
def splitL (fr : Bool) (o p tsn ssn most : Int) (l : List UInt8) : List Ck := if splitE l.length most = 0 then splitS fr o p tsn ssn most.toNat l else []
abbrev baseC (f0 i0 o p tsn : Int) (k : Nat) (l : List UInt8) (i : Nat) : Ck := ⟨0, f0, (tsn + i) % 4294967296, o, i0, p, pieceD k l i⟩
def baseL (f0 i0 o p tsn : Int) (k : Nat) (l : List UInt8) (j : Nat) : List Ck := (List.range j).map (baseC f0 i0 o p tsn k l)
theorem baseL_len {f0 i0 o p tsn : Int} {k : Nat} {l : List UInt8} {j : Nat} : (baseL f0 i0 o p tsn k l j).length = j := by unfold baseL; rw [List.length_map, List.length_range]
theorem baseL_at {f0 i0 o p tsn : Int} {k : Nat} {l : List UInt8} {j i : Nat} (h : i < j) : (baseL f0 i0 o p tsn k l j)[i]? = some (baseC f0 i0 o p tsn k l i) := by unfold baseL; rw [List.getElem?_map, List.getElem?_range h]; rfl
theorem baseL_succ {f0 i0 o p tsn : Int} {k : Nat} {l : List UInt8} {j : Nat} : baseL f0 i0 o p tsn k l (j + 1) = baseL f0 i0 o p tsn k l j ++ [baseC f0 i0 o p tsn k l j] := by unfold baseL; rw [List.range_succ, List.map_append]; rfl
theorem split_patch {fr : Bool} {o p tsn ssn : Int} {k : Nat} {l : List UInt8} {q : Nat} (hqe : nPcs l.length k = q) (hq : 0 < q) {f0 i0 : Int} (hf : f0 = if fr then 4 else 0) (hi : i0 = if fr then 0 else ssn) :
    ((baseL f0 i0 o p tsn k l q).set 0 { baseC f0 i0 o p tsn k l 0 with f := f0 + 2 }).set (q - 1) { baseC f0 i0 o p tsn k l (q - 1) with f := if q = 1 then f0 + 3 else f0 + 1 } = splitS fr o p tsn ssn k l := by
  apply List.ext_getElem?
  intro i
  rw [List.getElem?_set, List.getElem?_set, List.length_set, baseL_len]
  by_cases hlt : i < q
  · rw [splitS_at _ _ _ _ _ _ _ (by rw [hqe]; exact hlt), baseL_at hlt]
    unfold pieceC pieceF
    rw [hqe]
    subst hf; subst hi
    by_cases h1 : q - 1 = i
    · subst h1
      rw [if_pos rfl, if_pos hlt, if_pos (by omega : q - 1 + 1 = q)]
      by_cases h2 : q = 1
      · subst h2; cases fr <;> rfl
      · rw [if_neg h2, if_neg (by omega : ¬ q - 1 = 0)]
        cases fr <;> rfl
    · rw [if_neg h1, if_neg (by omega : ¬ i + 1 = q)]
      by_cases h0 : 0 = i
      · subst h0; rw [if_pos rfl, if_pos hq, if_pos rfl]; cases fr <;> rfl
      · rw [if_neg h0, if_neg (by omega : ¬ i = 0)]; cases fr <;> rfl
  · rw [if_neg (by omega), if_neg (by omega), List.getElem?_eq_none (by rw [baseL_len]; omega), List.getElem?_eq_none (by rw [splitS_len, hqe]; omega)]
theorem CkRow.flag {z : Bool} {B : HL} {r : List AV} {x : Ck} (h : CkRow z B r x) {f : Int} (hf : 0 ≤ f ∧ f < 256) : CkRow z B (r.set 1 (.i .u8 f)) { x with f := f } := by
  obtain ⟨b, bl, du, sk, pa, a, cap, g, rfl, h2, h3, h4, ⟨h5, h6, h7⟩, h8, h9⟩ := h
  exact ⟨b, bl, du, sk, pa, a, cap, g, rfl, h2, h3, h4, ⟨h5, hf, h7⟩, h8, h9⟩
theorem take_minlen (k : Nat) (l : List UInt8) : l.take (min k l.length) = l.take k := by rw [← List.take_take, List.take_length]
theorem piece_take (k i : Nat) (l : List UInt8) : (l.drop (i * k)).take (min k (l.length - i * k)) = pieceD k l i := by unfold pieceD; rw [← take_minlen k (l.drop (i * k)), List.length_drop]
theorem New.loop {H H' : AH} {L : Nat} {st : LoopState} {pend : Option XExit} {ps : List Nat} {asg body : XC} {T : Tm} (h : New H L (.loop st pend ps asg body T) H') : ∃ LB, LB = Blk.loop st pend ps asg body T ∧ New H L LB H' := ⟨_, rfl, h⟩
theorem baseC_ok {f0 i0 o p tsn : Int} {k : Nat} {l : List UInt8} {j : Nat} (hf : 0 ≤ f0 ∧ f0 < 256) (hk : k ≤ 1073741824) : (baseC f0 i0 o p tsn k l j).ok := by
  refine ⟨⟨Int.le_refl 0, (by decide : (0 : Int) < 256)⟩, hf, ⟨?_, ?_⟩, ?_⟩
  · exact Int.emod_nonneg _ (by decide)
  · exact Int.emod_lt_of_pos _ (by decide)
  · show (pieceD k l j).length ≤ _
    rw [pieceD_len]; omega
def splitP (fr : Bool) (o p tsn ssn : Int) (k : Nat) (l : List UInt8) (j : Nat) : List Ck := (List.range j).map (pieceC fr o p tsn ssn k l)
theorem splitP_len {fr : Bool} {o p tsn ssn : Int} {k : Nat} {l : List UInt8} {j : Nat} : (splitP fr o p tsn ssn k l j).length = j := by unfold splitP; rw [List.length_map, List.length_range]
theorem splitP_succ {fr : Bool} {o p tsn ssn : Int} {k : Nat} {l : List UInt8} {j : Nat} : splitP fr o p tsn ssn k l (j + 1) = splitP fr o p tsn ssn k l j ++ [pieceC fr o p tsn ssn k l j] := by unfold splitP; rw [List.range_succ, List.map_append]; rfl
theorem drop_piece (k i : Nat) (l : List UInt8) : (l.drop (i * k)).drop (min k (l.length - i * k)) = l.drop ((i + 1) * k) := by
  rw [List.drop_drop, Nat.add_mul, Nat.one_mul]
  by_cases h : k ≤ l.length - i * k
  · rw [Nat.min_eq_left h]
  · rw [Nat.min_eq_right (by omega), List.drop_of_length_le (by omega), List.drop_of_length_le (by omega)]
theorem pieceC_ok {fr : Bool} {o p tsn ssn : Int} {k : Nat} {l : List UInt8} {j : Nat} (hk : k ≤ 1073741824) : (pieceC fr o p tsn ssn k l j).ok := by
  have := baseC_ok (f0 := pieceF (nPcs l.length k) j fr) (i0 := if fr then 0 else ssn) (o := o) (p := p) (tsn := tsn) (l := l) (j := j) (by unfold pieceF; split <;> split <;> split <;> decide) hk
  exact this
theorem last_iff {n k i : Nat} (hk : 0 < k) (hi : i < nPcs n k) : i + 1 = nPcs n k ↔ min k (n - i * k) = n - i * k := by
  have h := nPcs_lt (n := n) (i := i + 1) hk
  rw [Nat.add_mul, Nat.one_mul] at h
  omega
def sameM (a b : Ms) : Bool := decide (a.o = b.o) && (a.u == b.u) && decide (a.p = b.p) && decide (a.d = b.d)
theorem sameM_refl (a : Ms) : sameM a a = true := by unfold sameM; simp
def dlen (r : List AV) : Nat := match r[11]? with
  | some (AV.sl _ n _ _) => n
  | _ => 0
/-- A chunk's cells, whose lists can be counted. -/
def FewRow (B : HL) (r : List AV) : Prop := ∃ (y0 y1 y2 y3 y4 y5 y6 pa : AV) (b0 b1 b2 b3 : Option (Nat × Nat)) (n0 n1 n2 n3 c0 c1 c2 c3 : Nat) (g0 g1 g2 g3 : Nat), r = [y0, y1, y2, y3, y4, y5, y6, .sl b0 n0 c0 g0, .sl b1 n1 c1 g1, .sl b2 n2 c2 g2, pa, .sl b3 n3 c3 g3] ∧ ∃ rows, (∀ H', Hs H' B → Rw 2 H' pa rows) ∧ ∀ (i : Nat) (r : List AV), rows[i]? = some r → ∃ y a n c g, r = [y, .sl a n c g]
theorem nPcs_le {n k : Nat} (hk : 0 < k) : nPcs n k ≤ n := by
  unfold nPcs
  rw [Nat.div_le_iff_le_mul_add_pred hk]
  have := Nat.le_mul_of_pos_left n hk
  omega
theorem splitE_le {n : Nat} {most : Int} (h : splitE n most = 0) : 0 < n ∧ n ≤ 16384 ∧ 1 ≤ most ∧ most ≤ 1172 := by
  unfold splitE at h
  split at h
  · cases h
  · split at h
    · cases h
    · omega
theorem splitL_len {fr : Bool} {o p tsn ssn most : Int} {l : List UInt8} : (splitL fr o p tsn ssn most l).length ≤ 16384 := by
  unfold splitL
  split
  · rename_i h
    have := splitE_le h
    have h2 := nPcs_le (n := l.length) (k := most.toNat) (by omega)
    rw [splitS_len]; omega
  · exact Nat.zero_le _
theorem split_msg {fr : Bool} {o p tsn ssn : Int} {k : Nat} {l : List UInt8} (hl : 0 < l.length) (hk : 0 < k) : msgS (splitS fr o p tsn ssn k l) = ⟨o, fr, p, l⟩ := by
  rw [msgS_ok (split_isM hl hk) (splitS_at _ _ _ _ _ _ _ (nPcs_pos hl hk)), split_join hk]
  unfold pieceC
  rw [pieceF_hi]
  cases fr <;> rfl
theorem splitE_two {n : Nat} {most : Int} (h : ¬ splitE n most = 0) (hn : n ≤ 2000) : splitE n most = 1 := by
  unfold splitE at *
  split
  · rfl
  · rename_i h1; rw [if_neg h1] at h; split at h <;> omega
theorem CksR.at {z : Bool} {B : HL} {rows : List (List AV)} {cs : List Ck} {i : Nat} (h : CksR z B rows cs) {x : Ck} (hx : cs[i]? = some x) : ∃ r, rows[i]? = some r ∧ CkRow z B r x := h.2 i x hx
theorem ck_bound {m : Nat} : ∀ {l : List Ck}, (∀ x ∈ l, x.d.length ≤ m) → (l.map Ck.d).flatten.length ≤ l.length * m
  | [], _ => by simp
  | x :: l, h => by
    have h1 := h x (List.mem_cons_self ..)
    have h2 := ck_bound (l := l) fun y hy => h y (List.mem_cons_of_mem _ hy)
    rw [List.map_cons, List.flatten_cons, List.length_append, List.length_cons, Nat.add_mul]; omega
theorem splitS_bound {fr : Bool} {o p tsn ssn : Int} {k : Nat} {l : List UInt8} : ∀ x ∈ splitS fr o p tsn ssn k l, x.d.length ≤ k := fun x hx => by
  obtain ⟨i, hi, rfl⟩ := List.getElem_of_mem hx
  obtain ⟨_, e⟩ := splitS_get (List.getElem?_eq_getElem hi)
  rw [e]
  show (pieceD k l i).length ≤ k
  rw [pieceD_len]; omega
theorem CksR.app {z : Bool} {B : HL} {r1 r2 : List (List AV)} {c1 c2 : List Ck} (h1 : CksR z B r1 c1) (h2 : CksR z B r2 c2) : CksR z B (r1 ++ r2) (c1 ++ c2) := by
  refine ⟨by rw [List.length_append, List.length_append, h1.1, h2.1], fun i x hx => ?_⟩
  by_cases hi : i < c1.length
  · rw [List.getElem?_append_left hi] at hx
    obtain ⟨r, h3, h4⟩ := h1.2 i x hx
    exact ⟨r, by rw [List.getElem?_append_left (by rw [h1.1]; exact hi)]; exact h3, h4⟩
  · rw [List.getElem?_append_right (by omega)] at hx
    obtain ⟨r, h3, h4⟩ := h2.2 _ x hx
    exact ⟨r, by rw [List.getElem?_append_right (by rw [h1.1]; omega), h1.1]; exact h3, h4⟩
theorem CksR.ex {z : Bool} {B : HL} {P : Ck → Prop} : ∀ {rows : List (List AV)}, (∀ (i : Nat) (r : List AV), rows[i]? = some r → ∃ x, CkRow z B r x ∧ P x) → ∃ cs, CksR z B rows cs ∧ ∀ x ∈ cs, P x
  | [], _ => ⟨[], CksR.nil, fun x hx => by cases hx⟩
  | r :: rows, h => by
    obtain ⟨x, h1, h2⟩ := h 0 r rfl
    obtain ⟨cs, ⟨h3, h4⟩, h5⟩ := CksR.ex (rows := rows) fun i r hi => h (i + 1) r (by simpa using hi)
    refine ⟨x :: cs, ⟨by rw [List.length_cons, List.length_cons, h3], fun i y hy => ?_⟩, fun y hy => ?_⟩
    · cases i with
      | zero => simp at hy; subst hy; exact ⟨r, rfl, h1⟩
      | succ i => simpa using h4 i y (by simpa using hy)
    · rcases List.mem_cons.1 hy with rfl | hy
      · exact h2
      · exact h5 y hy

end Go.Proofs.Ytadloppgokobeaa.E
