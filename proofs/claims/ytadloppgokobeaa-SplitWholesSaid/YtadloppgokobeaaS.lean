/- Messages in pieces: the plain law. It bears no condition. -/
import Derived.Test.YtadloppgokobeaaE42
import Derived.Test.YtadloppgokobeaaX
namespace Go.Proofs.Ytadloppgokobeaa.E
set_option linter.unusedVariables false
set_option linter.unusedSimpArgs false
/-- A chunk: kind, flags, number, stream, its number there, protocol, octets. -/
structure Ck where
  k : Int
  f : Int
  a : Int
  o : Int
  i : Int
  p : Int
  d : List UInt8
deriving Inhabited
def follows (x y : Ck) : Bool := decide (x.k = 0) && decide (y.k = 0) && decide (x.o = y.o) && decide (x.i = y.i) && decide (x.p = y.p) && decide (x.f / 4 % 2 = y.f / 4 % 2) && decide (y.a = (x.a + 1) % 4294967296) && decide (x.f % 2 = 0) && decide (y.f / 2 % 2 = 0)
def chain : List Ck → Bool
  | x :: y :: r => follows x y && chain (y :: r)
  | _ => true
theorem chain_iff : ∀ {l : List Ck}, chain l = true ↔ ∀ i x y, l[i]? = some x → l[i + 1]? = some y → follows x y = true
  | [] => ⟨fun _ i x y h => (by simp at h), fun _ => rfl⟩
  | [a] => ⟨fun _ i x y _ h => (by simp at h), fun _ => rfl⟩
  | a :: b :: r => by
    unfold chain
    rw [Bool.and_eq_true, chain_iff (l := b :: r)]
    constructor
    · rintro ⟨h1, h2⟩ i x y hx hy
      cases i with
      | zero => simp at hx hy; subst hx; subst hy; exact h1
      | succ i => exact h2 i x y (by simpa using hx) (by simpa using hy)
    · intro h
      exact ⟨h 0 a b rfl rfl, fun i x y hx hy => h (i + 1) x y (by simpa using hx) (by simpa using hy)⟩
/-- May chunks be a message, by their first and last one? -/
def startsM (l : List Ck) : Bool := match l.head?, l.getLast? with
  | some x, some y => decide (x.k = 0) && decide (x.f / 2 % 2 = 1) && decide (y.f % 2 = 1)
  | _, _ => false
/-- Are chunks a message? -/
def isM (l : List Ck) : Bool := startsM l && chain l
def bitOf (b : Bool) : Int := if b then 1 else 0
/-- The i-th piece of q. -/
def pieceF (q i : Nat) (fr : Bool) : Int := (if i = 0 then 2 else 0) + (if i + 1 = q then 1 else 0) + (if fr then 4 else 0)
def nPcs (n most : Nat) : Nat := (n + most - 1) / most
def pieceD (most : Nat) (l : List UInt8) (i : Nat) : List UInt8 := (l.drop (i * most)).take most
def pieceC (fr : Bool) (o p tsn ssn : Int) (most : Nat) (l : List UInt8) (i : Nat) : Ck :=
  ⟨0, pieceF (nPcs l.length most) i fr, (tsn + i) % 4294967296, o, if fr then 0 else ssn, p, pieceD most l i⟩
def splitS (fr : Bool) (o p tsn ssn : Int) (most : Nat) (l : List UInt8) : List Ck := (List.range (nPcs l.length most)).map (pieceC fr o p tsn ssn most l)
theorem splitS_len (fr : Bool) (o p tsn ssn : Int) (most : Nat) (l : List UInt8) : (splitS fr o p tsn ssn most l).length = nPcs l.length most := by unfold splitS; rw [List.length_map, List.length_range]
theorem splitS_get {fr : Bool} {o p tsn ssn : Int} {most : Nat} {l : List UInt8} {i : Nat} {x : Ck} (h : (splitS fr o p tsn ssn most l)[i]? = some x) : i < nPcs l.length most ∧ x = pieceC fr o p tsn ssn most l i := by
  unfold splitS at h
  rw [List.getElem?_map] at h
  by_cases hi : i < nPcs l.length most
  · rw [List.getElem?_range hi] at h
    exact ⟨hi, (Option.some.inj h).symm⟩
  · rw [List.getElem?_eq_none (by rw [List.length_range]; omega)] at h; cases h
theorem splitS_at (fr : Bool) (o p tsn ssn : Int) (most : Nat) (l : List UInt8) {i : Nat} (hi : i < nPcs l.length most) : (splitS fr o p tsn ssn most l)[i]? = some (pieceC fr o p tsn ssn most l i) := by
  unfold splitS
  rw [List.getElem?_map, List.getElem?_range hi]; rfl
theorem nPcs_pos {n most : Nat} (hn : 0 < n) (hm : 0 < most) : 0 < nPcs n most := by
  unfold nPcs
  exact Nat.div_pos (by omega) hm
theorem pieceF_lo {q i : Nat} {fr : Bool} : pieceF q i fr % 2 = if i + 1 = q then 1 else 0 := by
  unfold pieceF; split <;> split <;> split <;> rfl
theorem pieceF_mid {q i : Nat} {fr : Bool} : pieceF q i fr / 2 % 2 = if i = 0 then 1 else 0 := by
  unfold pieceF; split <;> split <;> split <;> rfl
theorem pieceF_hi {q i : Nat} {fr : Bool} : pieceF q i fr / 4 % 2 = if fr then 1 else 0 := by
  unfold pieceF; split <;> split <;> split <;> rfl
theorem pieces_join {most : Nat} (hm : 0 < most) (l : List UInt8) : ∀ k, ((List.range k).map (pieceD most l)).flatten = l.take (k * most)
  | 0 => by simp
  | k + 1 => by
    rw [List.range_succ, List.map_append, List.flatten_append, pieces_join hm l k]
    simp only [List.map_cons, List.map_nil, List.flatten_cons, List.flatten_nil, List.append_nil]
    unfold pieceD
    rw [Nat.add_mul, Nat.one_mul, List.take_add]
theorem nPcs_all {n most : Nat} (hm : 0 < most) : n ≤ nPcs n most * most := by
  unfold nPcs
  have h1 := Nat.div_add_mod (n + most - 1) most
  have h2 := Nat.mod_lt (n + most - 1) hm
  rw [Nat.mul_comm] at h1
  omega
theorem split_follows {fr : Bool} {o p tsn ssn : Int} {most : Nat} {l : List UInt8} {i : Nat} (hi : i + 1 < nPcs l.length most) : follows (pieceC fr o p tsn ssn most l i) (pieceC fr o p tsn ssn most l (i + 1)) = true := by
  unfold follows pieceC
  simp only [pieceF_lo, pieceF_mid, pieceF_hi, decide_true, Bool.true_and]
  rw [if_neg (by omega : ¬ i + 1 = nPcs l.length most), if_neg (by omega : ¬ i + 1 = 0)]
  simp only [decide_true, Bool.and_true, decide_eq_true_eq]
  omega
theorem split_isM {fr : Bool} {o p tsn ssn : Int} {most : Nat} {l : List UInt8} (hl : 0 < l.length) (hm : 0 < most) : isM (splitS fr o p tsn ssn most l) = true := by
  have hq := nPcs_pos hl hm
  unfold isM
  rw [Bool.and_eq_true]
  refine ⟨?_, chain_iff.2 fun i x y hx hy => ?_⟩
  · unfold startsM
    rw [List.head?_eq_getElem?, List.getLast?_eq_getElem?, splitS_len, splitS_at _ _ _ _ _ _ _ hq, splitS_at _ _ _ _ _ _ _ (by omega)]
    simp only [pieceC, pieceF_lo, pieceF_mid]
    rw [if_pos (by omega : nPcs l.length most - 1 + 1 = nPcs l.length most)]; rfl
  · obtain ⟨h1, rfl⟩ := splitS_get hx
    obtain ⟨h2, rfl⟩ := splitS_get hy
    exact split_follows h2
theorem split_join {fr : Bool} {o p tsn ssn : Int} {most : Nat} {l : List UInt8} (hm : 0 < most) : ((splitS fr o p tsn ssn most l).map Ck.d).flatten = l := by
  unfold splitS
  rw [List.map_map]
  show ((List.range _).map (pieceD most l)).flatten = l
  rw [pieces_join hm, List.take_of_length_le (nPcs_all hm)]
/-- Chunks whose first one does not begin are none. -/
theorem notM_head {x : Ck} {r : List Ck} (h : x.f / 2 % 2 = 0) : isM (x :: r) = false := by
  unfold isM startsM
  rw [List.head?_cons]
  cases hq : (x :: r).getLast? with
  | none => rfl
  | some y => simp [h]
theorem notM_nil : isM [] = false := rfl
theorem notM_last {l : List Ck} {y : Ck} (hl : l.getLast? = some y) (h : y.f % 2 = 0) : isM l = false := by
  unfold isM startsM
  rw [hl]
  cases hq : l.head? with
  | none => rfl
  | some x => simp [h]
theorem notM_chain {l : List Ck} {i : Nat} {x y : Ck} (hx : l[i]? = some x) (hy : l[i + 1]? = some y) (h : follows x y = false) : isM l = false := by
  cases hc : isM l with
  | false => rfl
  | true =>
    unfold isM at hc
    rw [Bool.and_eq_true] at hc
    rw [chain_iff.1 hc.2 i x y hx hy] at h; cases h
theorem split_tail {fr : Bool} {o p tsn ssn : Int} {most : Nat} {l : List UInt8} : isM ((splitS fr o p tsn ssn most l).drop 1) = false := by
  cases hd : (splitS fr o p tsn ssn most l).drop 1 with
  | nil => rfl
  | cons x r =>
    have hx : (splitS fr o p tsn ssn most l)[1]? = some x := by
      have := congrArg (·[0]?) hd
      simpa using this
    obtain ⟨h1, rfl⟩ := splitS_get hx
    exact notM_head (by simp only [pieceC, pieceF_mid]; rfl)
theorem split_init {fr : Bool} {o p tsn ssn : Int} {most : Nat} {l : List UInt8} : isM ((splitS fr o p tsn ssn most l).take ((splitS fr o p tsn ssn most l).length - 1)) = false := by
  have hL := splitS_len fr o p tsn ssn most l
  generalize hS : splitS fr o p tsn ssn most l = S at *
  by_cases h2 : S.length < 2
  · have : S.take (S.length - 1) = [] := List.length_eq_zero_iff.1 (by rw [List.length_take]; omega)
    rw [this]; rfl
  · have hlast : (S.take (S.length - 1)).getLast? = S[S.length - 2]? := by
      rw [List.getLast?_eq_getElem?, List.length_take, List.getElem?_take]
      rw [show min (S.length - 1) S.length - 1 = S.length - 2 by omega, if_pos (by omega)]
    obtain ⟨y, hy⟩ : ∃ y, S[S.length - 2]? = some y := ⟨_, List.getElem?_eq_getElem (by omega)⟩
    rw [hy] at hlast
    refine notM_last hlast ?_
    rw [← hS] at hy
    obtain ⟨h1, rfl⟩ := splitS_get hy
    rw [← hL] at h1
    simp only [pieceC, pieceF_lo]
    rw [if_neg (by rw [hS, ← hL]; omega)]
/-- Two pieces exchanged. -/
theorem split_swap {fr : Bool} {o p tsn ssn : Int} {most : Nat} {l : List UInt8} {k : Nat} (hk : k + 1 < nPcs l.length most) : isM (((splitS fr o p tsn ssn most l).set k (pieceC fr o p tsn ssn most l (k + 1))).set (k + 1) (pieceC fr o p tsn ssn most l k)) = false := by
  have hL := splitS_len fr o p tsn ssn most l
  have hg : ∀ i, (((splitS fr o p tsn ssn most l).set k (pieceC fr o p tsn ssn most l (k + 1))).set (k + 1) (pieceC fr o p tsn ssn most l k))[i]? = if i = k + 1 then some (pieceC fr o p tsn ssn most l k) else if i = k then some (pieceC fr o p tsn ssn most l (k + 1)) else (splitS fr o p tsn ssn most l)[i]? := by
    intro i
    rw [List.getElem?_set, List.length_set, List.getElem?_set]
    by_cases h1 : i = k + 1
    · subst h1; simp [hL, hk]
    · rw [if_neg (by omega), if_neg h1]
      by_cases h2 : i = k
      · subst h2; simp [hL]; omega
      · rw [if_neg (by omega), if_neg h2]
  refine notM_chain (i := k) (by rw [hg, if_neg (by omega), if_pos rfl]) (by rw [hg, if_pos rfl]) ?_
  unfold follows pieceC
  have : ¬ ((tsn + (k : Int)) % 4294967296 = ((tsn + ((k + 1 : Nat) : Int)) % 4294967296 + 1) % 4294967296) := by omega
  simp only [decide_eq_false this, Bool.and_false, Bool.false_and]
/-- Two messages are none. -/
theorem split_two {fr fr2 : Bool} {o p o2 p2 tsn tsn2 ssn ssn2 : Int} {most : Nat} {l m : List UInt8} (hl : 0 < l.length) (h2 : 0 < m.length) (hm : 0 < most) :
    (∀ x y, (splitS fr o p tsn ssn most l).getLast? = some x → (splitS fr2 o2 p2 tsn2 ssn2 most m).head? = some y → follows x y = false) ∧ isM (splitS fr o p tsn ssn most l ++ splitS fr2 o2 p2 tsn2 ssn2 most m) = false := by
  have hq := nPcs_pos hl hm
  have hq2 := nPcs_pos h2 hm
  have hL := splitS_len fr o p tsn ssn most l
  have key : follows (pieceC fr o p tsn ssn most l (nPcs l.length most - 1)) (pieceC fr2 o2 p2 tsn2 ssn2 most m 0) = false := by
    unfold follows pieceC
    simp only [pieceF_lo]
    rw [if_pos (by omega : nPcs l.length most - 1 + 1 = nPcs l.length most)]; simp
  constructor
  · intro x y hx hy
    rw [List.getLast?_eq_getElem?, hL] at hx
    rw [List.head?_eq_getElem?] at hy
    obtain ⟨_, rfl⟩ := splitS_get hx
    obtain ⟨_, rfl⟩ := splitS_get hy
    exact key
  · refine notM_chain (i := nPcs l.length most - 1) (x := pieceC fr o p tsn ssn most l (nPcs l.length most - 1)) (y := pieceC fr2 o2 p2 tsn2 ssn2 most m 0) ?_ ?_ key
    · rw [List.getElem?_append_left (by rw [hL]; omega)]; exact splitS_at _ _ _ _ _ _ _ (by omega)
    · rw [List.getElem?_append_right (by rw [hL]; omega), hL, show nPcs l.length most - 1 + 1 - nPcs l.length most = 0 by omega]; exact splitS_at _ _ _ _ _ _ _ hq2

end Go.Proofs.Ytadloppgokobeaa.E
