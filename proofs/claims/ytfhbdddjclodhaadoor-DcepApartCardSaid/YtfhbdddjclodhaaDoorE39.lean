/- Programs that read the two tables of unicode/utf8: the heap at the start, the fact for ValidString, the row. It bears no condition. -/
import Derived.Test.YtfhbdddjclodhaaDoorE38
import Derived.Lib.LaidU8T
import Derived.Shelf.Unicode.ValidAny
import Derived.LaidMore
import Derived.Lay
namespace Go.Proofs.YtfhbdddjclodhaaDoor.E
open Go.RowKit (Below)
open Go.ChangeShapes Go.RowKit
set_option linter.unusedVariables false
set_option linter.unusedSimpArgs false

def firstC : List AV := (List.range 256).map fun c => .i .u8 (Lib.firstT c)
def acceptC : List AV := (List.range 16).flatMap fun i => [.i .u8 (Lib.accLo i), .i .u8 (Lib.accHi i)]
/-- The heap of the two tables: first at 0, acceptRanges at 1. -/
def tabs0 : AH := ⟨[(0, some (.cells firstC false)), (1, some (.cells acceptC false))], 2⟩
theorem tabs0_get0 : tabs0.get 0 = some (.cells firstC false) := rfl
theorem tabs0_get1 : tabs0.get 1 = some (.cells acceptC false) := rfl
theorem tabs0_get {n : Nat} {b : Blk} (h : tabs0.get n = some b) : (n = 0 ∧ b = .cells firstC false) ∨ (n = 1 ∧ b = .cells acceptC false) := by
  unfold tabs0 AH.get AH.getL at h
  split at h
  · rename_i e; exact .inl ⟨e.symm, by simpa using h.symm⟩
  · unfold AH.getL at h
    split at h
    · rename_i e; exact .inr ⟨e.symm, by simpa using h.symm⟩
    · simp [AH.getL] at h
theorem tabs0_ro : RO tabs0 := fun n b h => by
  rcases tabs0_get h with ⟨_, rfl⟩ | ⟨_, rfl⟩ <;> rfl
theorem firstC_get {c : Nat} (h : c < 256) : firstC[c]? = some (.i .u8 (Lib.firstT c)) := by
  unfold firstC; rw [List.getElem?_map, List.getElem?_range h]; rfl
set_option maxRecDepth 4000 in
theorem acceptC_get : ∀ i, i < 16 → acceptC[2 * i]? = some (.i .u8 (Lib.accLo i)) ∧ acceptC[2 * i + 1]? = some (.i .u8 (Lib.accHi i)) := by
  intro i h
  match i, h with
  | 0, _ | 1, _ | 2, _ | 3, _ | 4, _ | 5, _ | 6, _ | 7, _ | 8, _ | 9, _ | 10, _ | 11, _ | 12, _ | 13, _ | 14, _ | 15, _ => exact ⟨rfl, rfl⟩
  | n + 16, h => omega
theorem firstC_len : firstC.length = 256 := by simp [firstC]
theorem acceptC_len : acceptC.length = 32 := by rfl

section
variable {P : Program} {B : Nat} {w0 w W : World} {ρ : Rho} {H : AH}
theorem cell_block {W : World} {g i : Nat} {v : Value} (h : W.cell? ⟨g, i, none⟩ = some v) : ∃ cs t fr, W.heap[g]? = some (.cells cs t fr) ∧ cs[i]? = some v := by
  unfold World.cell? at h
  split at h
  · rename_i cs t fr hb
    exact ⟨cs, t, fr, hb, by simpa using h⟩
  · cases h
theorem cells_of {W : World} {g : Nat} {c : List AV} {cs : Array Value} {t : TypeId} {fr : Nat × Nat} (hb : W.heap[g]? = some (.cells cs t fr)) (h : ∀ (i : Nat) v, c[i]? = some v → ∃ cv, W.cell? ⟨g, i, none⟩ = some cv ∧ VR ρ v cv) : CR ρ c cs 0 := fun i v hv => by
  obtain ⟨cv, h1, h2⟩ := h i v hv
  obtain ⟨cs', t', fr', hb', hc⟩ := cell_block h1
  rw [hb] at hb'
  simp only [Option.some.injEq, Obj.cells.injEq] at hb'
  obtain ⟨rfl, _, _⟩ := hb'
  exact ⟨cv, by rw [Nat.zero_add]; exact hc, h2⟩
def tabsR (W : World) : Rho := fun n => if n = 0 then (match W.heap[0]? with | some (Obj.cells cs _ _) => some (0, 0, cs.size) | _ => none) else if n = 1 then (match W.heap[1]? with | some (Obj.cells cs _ _) => some (1, 0, cs.size) | _ => none) else none
theorem Rel.tabs (hg : P.globals.size = 2) (h : Lib.Utf8Tabs 0 1 W) : Rel P W.heap.size W (tabsR W) tabs0 W := by
  obtain ⟨hf, ha⟩ := h
  obtain ⟨cs0, t0, fr0, hb0, _⟩ := cell_block (hf 0 (by decide))
  obtain ⟨cs1, t1, fr1, hb1, _⟩ := cell_block (ha 0 (by decide)).1
  have e0 : tabsR W 0 = some (0, 0, cs0.size) := by simp only [tabsR, if_true, hb0]
  have e1 : tabsR W 1 = some (1, 0, cs1.size) := by simp only [tabsR, if_neg (show ¬ (1 : Nat) = 0 by decide), if_true, hb1]
  have e2 : ∀ n, 2 ≤ n → tabsR W n = none := fun n hn => by simp only [tabsR, if_neg (show ¬ n = 0 by omega), if_neg (show ¬ n = 1 by omega)]
  refine ⟨Nat.le_refl _, Below.refl _ _, fun n hn => e2 n hn, fun g hgl => ?_, fun n b hn => ?_, fun n k o s hn => ?_, fun n b m c k o s k' o' s' h1 _ _ hm => ?_⟩
  · have : g = 0 ∨ g = 1 := by omega
    rcases this with rfl | rfl
    · exact ⟨_, e0⟩
    · exact ⟨_, e1⟩
  · rcases tabs0_get hn with ⟨rfl, rfl⟩ | ⟨rfl, rfl⟩
    · refine ⟨0, 0, cs0.size, cs0, t0, fr0, e0, hb0, rfl, cells_of hb0 fun i v hv => ?_, fun x hx => ?_, fun h => by cases h⟩
      · have hi : i < 256 := by have := (List.getElem?_eq_some_iff.1 hv).1; rwa [firstC_len] at this
        rw [firstC_get hi] at hv
        simp only [Option.some.injEq] at hv; subst hv
        exact ⟨_, hf i hi, by simp only [VR]⟩
      · obtain ⟨c, _, rfl⟩ := List.mem_map.1 hx; rfl
    · refine ⟨1, 0, cs1.size, cs1, t1, fr1, e1, hb1, rfl, cells_of hb1 fun i v hv => ?_, fun x hx => ?_, fun h => by cases h⟩
      · have hi : i < 32 := by have := (List.getElem?_eq_some_iff.1 hv).1; rwa [acceptC_len] at this
        obtain ⟨h1, h2⟩ := acceptC_get (i / 2) (by omega)
        obtain ⟨h3, h4⟩ := ha (i / 2) (by omega)
        by_cases ev : i % 2 = 0
        · rw [show 2 * (i / 2) = i by omega] at h1 h3
          rw [h1] at hv
          simp only [Option.some.injEq] at hv; subst hv
          exact ⟨_, h3, by simp only [VR]⟩
        · rw [show 2 * (i / 2) + 1 = i by omega] at h2 h4
          rw [h2] at hv
          simp only [Option.some.injEq] at hv; subst hv
          exact ⟨_, h4, by simp only [VR]⟩
      · unfold acceptC at hx
        obtain ⟨c, _, hx⟩ := List.mem_flatMap.1 hx
        simp only [List.mem_cons, List.not_mem_nil, or_false] at hx
        rcases hx with rfl | rfl <;> rfl
  · by_cases h0 : n = 0
    · subst h0; rw [e0] at hn
      simp only [Option.some.injEq, Prod.mk.injEq] at hn
      rw [← hn.1]
      exact (Array.getElem?_eq_some_iff.1 hb0).1
    · by_cases h1 : n = 1
      · subst h1; rw [e1] at hn
        simp only [Option.some.injEq, Prod.mk.injEq] at hn
        rw [← hn.1]
        exact (Array.getElem?_eq_some_iff.1 hb1).1
      · rw [e2 n (by omega)] at hn; cases hn
  · rcases tabs0_get h1 with ⟨_, rfl⟩ | ⟨_, rfl⟩ <;> cases hm
/-- In a heap that holds the tables, the machine's memory does. -/
theorem Rel.utf8 (hg : P.globals.size = 2) (hR : Rel P B w0 ρ H w) (h0 : H.get 0 = some (.cells firstC false)) (h1 : H.get 1 = some (.cells acceptC false)) : Lib.Utf8Tabs 0 1 w := by
  have key : ∀ g c, g < 2 → H.get g = some (.cells c false) → ∀ (i : Nat) k n, c[i]? = some (.i k n) → w.cell? ⟨g, i, none⟩ = some (.int k n) := by
    intro g c hgl hc i k n hi
    obtain ⟨s', eg⟩ := hR.glob g (by omega)
    obtain ⟨k', o, s, cs, t, fr, e, hb, hs, hcr, _, _⟩ := hR.blk g _ hc
    rw [eg] at e
    simp only [Option.some.injEq, Prod.mk.injEq] at e
    obtain ⟨rfl, rfl, _⟩ := e
    obtain ⟨cv, h2, h3⟩ := hcr i _ hi
    simp only [VR] at h3; subst h3
    unfold World.cell?
    rw [hb]
    simpa using h2
  refine ⟨fun c hc => key 0 _ (by decide) h0 c _ _ (firstC_get hc), fun i hi => ?_⟩
  obtain ⟨h3, h4⟩ := acceptC_get i hi
  exact ⟨key 1 _ (by decide) h1 _ _ _ h3, key 1 _ (by decide) h1 _ _ _ h4⟩

def isTab (c : List AV) (b : Option Blk) : Bool := match b with | some (.cells l false) => sameVL l c | _ => false
theorem isTab_iff {c : List AV} {b : Option Blk} : isTab c b = true ↔ b = some (.cells c false) := by
  constructor
  · intro h
    unfold isTab at h
    split at h
    · rw [sameVL_eq h]
    · cases h
  · rintro rfl; exact sameVL_refl c
/-- ValidString's answer, where the tables lie. -/
def withUtf8 (f : Nat) (sp : Nat → List AV → AH → Option (AV × AH)) : Nat → List AV → AH → Option (AV × AH) := fun g xs H =>
  if g = f then (match xs with | [.s s] => if s.size ≤ 9223372036854775807 ∧ isTab firstC (H.get 0) = true ∧ isTab acceptC (H.get 1) = true then some (.b (Lib.validD s.data.toList), H) else none | _ => none) else sp g xs H
theorem withUtf8_ok (hg : P.globals.size = 2) {tab : Nat → Option XFun} {sp : Nat → List AV → AH → Option (AV × AH)} {f : Nat} {fn : Func} (hf : P.funcs[f]? = some fn) (hbody : fn.body.isSome = true) (hname : (fn.name == "runtime.NumGoroutine") = false)
    (hV : ∀ (s : ByteArray) (w : World), s.size ≤ 9223372036854775807 → Lib.Utf8Tabs 0 1 w → Calls P f #[.string s] w fun e w' => e = .returned (.bool (Lib.validD s.data.toList)) ∧ Below w.heap.size w w') (hsp : SpOK P tab sp) : SpOK P tab (withUtf8 f sp) := by
  intro g xs H v H' hn hs B w0 ρ w vs hR ha
  unfold withUtf8 at hs
  split at hs
  · rename_i e; subst e
    split at hs
    · rename_i s
      split at hs
      · rename_i hc
        simp only [Option.some.injEq, Prod.mk.injEq] at hs
        obtain ⟨rfl, rfl⟩ := hs
        refine ⟨fn, hf, hbody, hname, fun n => ?_⟩
        obtain ⟨y, ys, hys, hy, hnil⟩ := VRL_cons_iff.1 ha
        rw [VRL_nil_iff] at hnil; subst hnil
        simp only [VR] at hy; subst hy
        have hvs : vs = #[.string s] := by apply Array.toList_inj.1; rw [hys]
        subst hvs
        refine (callsIn_wide.2 (hV s w hc.1 (hR.utf8 hg (isTab_iff.1 hc.2.1) (isTab_iff.1 hc.2.2)))).mono ?_
        rintro e w' ⟨rfl, hb⟩
        obtain ⟨r1, s1⟩ := hR.later hb
        exact ⟨_, ρ, rfl, by simp only [VR], r1, s1⟩
      · cases hs
    · cases hs
  · exact hsp g xs H v H' hn hs B w0 ρ w vs hR ha
theorem withUtf8_at {f : Nat} {sp : Nat → List AV → AH → Option (AV × AH)} {s : ByteArray} {H : AH} (hs : s.size ≤ 9223372036854775807) (h0 : H.get 0 = some (.cells firstC false)) (h1 : H.get 1 = some (.cells acceptC false)) : withUtf8 f sp f [.s s] H = some (.b (Lib.validD s.data.toList), H) := by
  simp only [withUtf8, if_true, isTab_iff.2 h0, isTab_iff.2 h1, and_true, if_pos hs]
def toldAs (v : AV) (r : Option (AV × AH)) : Bool := match r with | some (x, _) => sameV x v | none => false
/-- A closed call's answer, told by the evaluator from the tables' heap. -/
def withTabs (f : Nat) (args : List AV) (v : AV) (sp : Nat → List AV → AH → Option (AV × AH)) : Nat → List AV → AH → Option (AV × AH) := fun g xs H =>
  if g = f then (if sameVL xs args = true ∧ isTab firstC (H.get 0) = true ∧ isTab acceptC (H.get 1) = true then some (v, H) else none) else sp g xs H
theorem withTabs_ok (hm : P.follows .mixedOrders = true) (hg : P.globals.size = 2) {tab tab' : Nat → Option XFun} {sp sp' : Nat → List AV → AH → Option (AV × AH)} (htab : TabOK P tab') (hsp' : SpOK P tab' sp') {k f : Nat} {args : List AV} {v : AV}
    (h : toldAs v (exec tab' sp' k (.fn (.func f) [] []) args tabs0) = true) (hv : flatV v = true) (haf : flatVL args = true) (hsp : SpOK P tab sp) : SpOK P tab (withTabs f args v sp) := by
  intro g xs H v' H' hn hs B w0 ρ w vs hR ha
  unfold withTabs at hs
  split at hs
  · rename_i e; subst e
    split at hs
    · rename_i hc
      obtain ⟨hc1, hc2, hc3⟩ := hc
      have := sameVL_eq hc1; subst this
      simp only [Option.some.injEq, Prod.mk.injEq] at hs
      obtain ⟨rfl, rfl⟩ := hs
      unfold toldAs at h
      split at h
      · rename_i x H1 hx
        have := sameV_eq h; subst this
        have hT := hR.utf8 hg (isTab_iff.1 hc2) (isTab_iff.1 hc3)
        rcases exec_ok hm htab hsp' k _ _ _ _ _ hx _ _ _ w (.func (.func g) #[] #[]) vs (Rel.tabs hg hT) (by simp only [VR, FR]; exact ⟨_, #[], #[], rfl, rfl, VRL_nil, VRL_nil⟩) (VRL_flat haf ha) with ⟨g', first, cap, fn, hfv, h1, h2, h3, hc⟩ | ⟨l, f', t, a, b, hfv, _⟩
        · simp only [Value.func.injEq, Fn.func.injEq] at hfv
          obtain ⟨rfl, rfl, rfl⟩ := hfv
          refine ⟨fn, h1, h2, h3, fun n => ?_⟩
          have := hc n
          simp only [Array.empty_append, Array.append_empty] at this
          refine this.mono ?_
          rintro e w' ⟨cv, ρ', rfl, hv', hR', _⟩
          obtain ⟨r1, s1⟩ := hR.later hR'.below
          exact ⟨cv, ρ, rfl, VR_flat hv hv', r1, s1⟩
        · simp at hfv
      · cases h
    · cases hs
  · exact hsp g xs H v' H' hn hs B w0 ρ w vs hR ha
theorem withTabs_at {f : Nat} {args : List AV} {v : AV} {sp : Nat → List AV → AH → Option (AV × AH)} {H : AH} (h0 : H.get 0 = some (.cells firstC false)) (h1 : H.get 1 = some (.cells acceptC false)) : withTabs f args v sp f args H = some (v, H) := by
  simp only [withTabs, if_true, isTab_iff.2 h0, isTab_iff.2 h1, sameVL_refl, and_self]
theorem withTabs_no {f g : Nat} {a : List AV} {v : AV} {sp : Nat → List AV → AH → Option (AV × AH)} {xs : List AV} {H : AH} (h : g ≠ f) : withTabs f a v sp g xs H = sp g xs H := by simp only [withTabs, h, if_false]
end

/-- The law answers true, whatever its arguments, over a heap with which it begins. -/
theorem law_liftedG {C : Checked} (hl : laidOutB C.prog = true) {X : World → Prop} (hX : ∀ w w' : World, w.heap = w'.heap → X w → X w') {HG : AH} {ρG : World → Rho} (start : ∀ W, X W → Rel C.prog W.heap.size W (ρG W) HG W) (hroG : RO HG)
    {os : Os} {f : FuncId} {fn : Func} {s : ChangeSpec} {conds : List PathCond} {apart : Bool} {k : Nat} {tb : TypeId} {D : Type} {enc : TypeId × Value → D} (own : ownKnob C.prog.godebug = none) (started : os.Started) (noInit : C.prog.inits.idxOf? f = none) (hfn : C.prog.funcs[f]? = some fn)
    (witness : ∃ (w : World) (tape : Tape) (i : Input), w.os = os ∧ (w.forCall tape i).Shaped C.prog ∧ i.vars = [] ∧ Input.okWide C.prog (w.forCall tape i) .any w.heap.size f i ∧
      ((s.pre enc C.prog fn conds apart (w.forCall tape i).memory i.args ∧ X (w.forCall tape i).memory) ∧ sizedMet enc C.prog fn (OpenSpec.ofChange s) apart (w.forCall tape i).memory i.args) ∧ ({} : Assume).holds C.prog (lone (Frame.enter C.prog f i.args .normal) [] (w.forCall tape i)))
    (hvars : s.vars = []) (hres : fn.resultTypes = #[tb]) (htb : C.prog.underlying tb = some .bool)
    (hts : ∀ t ∈ fn.params.toList, fit C.prog k t = true ∧ C.prog.readableRec t = true ∧ t < C.prog.types.size)
    (hspec : ∀ ds : List (DataW D), ds.length = fn.params.size → s.fn D ds = { results := [.lit (.bool true)], args := ds })
    (law : ∀ W ρ H xs (args : Array Value), Rel C.prog W.heap.size W ρ H W → RO H → (∀ n b, HG.get n = some b → H.get n = some b) → VRL ρ xs args.toList → TypedVs C.prog H k fn.params.toList xs → Calls C.prog f args W fun e w' => e = .returned (.bool true) ∧ Below W.heap.size W w') :
    ReturnsInHanded {} C os f .any (fun w args => (s.pre enc C.prog fn conds apart w args ∧ X w) ∧ sizedMet enc C.prog fn (OpenSpec.ofChange s) apart w args) (s.post enc C.prog fn apart true false false) := by
  refine returnsInHanded_of_change_and (C := C) (X := fun w _ => X w) (fun w w' _ hh h => hX w w' hh h) own started noInit hfn witness ?_
  intro W base args ds gs before hval hW hcnd hsz hXW _
  have hW' := hW
  obtain ⟨p, q, hA, hV, rfl, hfz, hnd⟩ := hW
  rw [hvars] at hV
  obtain ⟨rfl, rfl⟩ := trodVars_none hV
  obtain ⟨ρ', H', xs, r1, o1, g1, v1, t1⟩ := args_got (k := k) (base := base) fn.params.toList args.toList ds p (fun t ht => (hts t ht).1) (fun j t v h1 h2 => hval j t v (by simpa using h1) (by simpa using h2)) hA _ _ (start W hXW) hroG
  refine (law W ρ' H' xs args r1 o1 (fun n b h => g1.get n b h) v1 t1).mono fun e W' ⟨he, bel⟩ => ?_
  subst he
  have hlen : ds.length = fn.params.size := by
    have key : ∀ (ts : List TypeId) (vs : List Value) (ds : List (DataW D)) (ps : List MemPlace), DataW.TrodAll enc C.prog W 0 (fun _ => true) true ts vs ds ps → ds.length = ts.length := by
      intro ts
      induction ts with
      | nil => intro vs ds ps h; obtain ⟨rfl, rfl, rfl⟩ := trodAll_nil h; rfl
      | cons t ts ih => intro vs ds ps h; obtain ⟨v, vs', d, ds', p, q, rfl, rfl, rfl, _, r0⟩ := trodAll_cons h; simp [ih _ _ _ r0]
    simpa using key _ _ _ _ hA
  refine ⟨_, rfl, ds, [], p ++ [], [], p, [], hW', ?_, ?_, ?_, bel.frame _, fun h => by cases h⟩
  · rw [List.append_nil, hspec ds hlen, hres]
    exact trodAll_mk1 (shut_bool htb _)
  · rw [List.append_nil, hspec ds hlen]
    exact below_trodAll hl bel _ _ _ _ (fun t ht => (hts t ht).2) hA fun x hx => hW'.lt x (List.mem_append.2 (.inl hx))
  · rw [List.append_nil, hspec ds hlen, hvars]
    rfl
end Go.Proofs.YtfhbdddjclodhaaDoor.E
