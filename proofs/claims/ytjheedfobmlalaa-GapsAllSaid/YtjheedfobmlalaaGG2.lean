/- Blocks: in every order of the map. It bears no condition. -/
import Derived.Test.YtjheedfobmlalaaGG1
import Derived.Test.YtjheedfobmlalaaE50
namespace Go.Proofs.Ytjheedfobmlalaa.E

open Go.RowKit (Below)
set_option linter.unusedVariables false
set_option linter.unusedSimpArgs false
def cfst : Code → Code
  | .seq a _ => a
  | .block _ b => b
  | .loop b => b
  | .cond _ a _ => a
  | c => c
def csnd : Code → Code
  | .seq _ b => b
  | .cond _ _ b => b
  | c => c
def crops : Code → Array Oper
  | .region _ o _ => o
  | _ => #[]
noncomputable def fn15 : Func := (Try.prog.funcs[15]?).getD default
noncomputable def bd15 : Code := fn15.body.getD .skip
noncomputable def md15 : Code := csnd (csnd (csnd bd15))
noncomputable def lp15 : Code := cfst (cfst (csnd (cfst md15)))
noncomputable def r15_4 : Array Oper := crops (cfst (cfst md15))
noncomputable def r15_5 : Array Oper := crops (cfst lp15)
noncomputable def r15_6 : Array Oper := crops (cfst (cfst (csnd (csnd lp15))))
noncomputable def b15 : Code := csnd (cfst (csnd (csnd lp15)))
theorem fn15_get : Try.prog.funcs[15]? = some fn15 := by kernel_rfl
theorem fn15_body : fn15.body = some (.seq (cfst bd15) (.seq (cfst (csnd bd15)) (.seq (cfst (csnd (csnd bd15))) (.seq (.seq (.region 4 r15_4 false) (.block 0 (.loop (.seq (.region 5 r15_5 false) (.seq (.cond (.tmp 17) .skip (.exit 0)) (.block 1 (.seq (.region 6 r15_6 false) b15))))))) (csnd md15))))) := by kernel_rfl
theorem fn15_name : (fn15.name == "runtime.NumGoroutine") = false := by kernel_rfl
theorem fn15_ntmps : fn15.ntmps = 75 := by kernel_rfl
theorem fn15_res : cResL Try.prog fn15.results.toList = some [.t 2] := by kernel_rfl
theorem c15_0 : comp Try.prog 75 (cfst bd15) = some xr15_0 := by kernel_rfl
theorem c15_1 : comp Try.prog 75 (cfst (csnd bd15)) = some xr15_1 := by kernel_rfl
theorem c15_3 : comp Try.prog 75 (cfst (csnd (csnd bd15))) = some xr15_3 := by kernel_rfl
theorem c15_b : comp Try.prog 75 b15 = some xb15 := by kernel_rfl
theorem c15_s : comp Try.prog 75 (csnd md15) = some xs15 := by kernel_rfl
theorem c15_l4 : cOpers Try.prog 75 r15_4 (fun _ => []) [0, 1, 2, 3] = some l15_4 := by kernel_rfl
theorem c15_l6 : cOpers Try.prog 75 r15_6 (fun _ => []) [1, 2] = some l15 := by kernel_rfl
theorem z15_4 : List.range r15_4.size = [0, 1, 2, 3] ++ [4] := by kernel_rfl
theorem z15_6 : List.range r15_6.size = 0 :: [1, 2] := by kernel_rfl
theorem o15_4 : (r15_4[4]?).map (fun o => (o.dst, o.op, o.guard)) = some (some 15, .range 55 (.tmp 14), none) := by kernel_rfl
theorem o15_5 : r15_5.toList.map (fun o => (o.dst, o.op, o.guard)) = [(some 16, .next (.tmp 15) false, none), (some 17, .extract (.tmp 16) 0, none)] := by kernel_rfl
theorem o15_6 : (r15_6[0]?).map (fun o => (o.dst, o.op, o.guard)) = some (some 18, .entry (.tmp 15), none) := by kernel_rfl
theorem t55 : Try.prog.underlying 55 = some (.map 22 4) := by kernel_rfl
open Go.Sort (ltInt)
/-! ### Blocks -/
theorem msort_perm {a b : List Int} (h : a.Perm b) : msort a = msort b := by
  have tot : ∀ x y : Int, (!ltInt y x || !ltInt x y) = true := fun x y => by simp only [ltInt, Bool.or_eq_true, Bool.not_eq_true', decide_eq_false_iff_not]; omega
  have tr : ∀ x y z : Int, (!ltInt y x) = true → (!ltInt z y) = true → (!ltInt z x) = true := fun x y z => by simp only [ltInt, Bool.not_eq_true', decide_eq_false_iff_not]; omega
  refine List.Perm.eq_of_pairwise (le := fun x y => (!ltInt y x) = true) ?_ ?_ ?_ ((List.mergeSort_perm _ _).trans (h.trans (List.mergeSort_perm _ _).symm))
  · intro x y _ _ h1 h2
    simp only [ltInt, Bool.not_eq_true', decide_eq_false_iff_not] at h1 h2
    omega
  · exact List.pairwise_mergeSort tr tot _
  · exact List.pairwise_mergeSort tr tot _
def blocksF (c : Int) (l : List Int) : List (Int × Int) := (runsF (msort (l.map (dst c)))).take 64
def Out15 (rows : List (Int × Int)) (H : AH) (v : AV) (H' : AH) : Prop := ∃ C, H.next ≤ C ∧ ((rows = [] ∧ v = .sl none 0 0 0 ∧ H' = ⟨H.bl, C⟩) ∨ (rows ≠ [] ∧ v = .sl (some (C, 0)) rows.length rows.length 2 ∧ H' = ⟨(C, some (.cells (rw2 rows).flatten true)) :: H.bl, C + 1⟩))
def Post15 (H0 : AH) (rows : List (Int × Int)) (T : Tm) (H' : AH) : Prop := ∃ w wc, T.get 2 = w ∧ Sq 2 w wc (rw2 rows).flatten ∧ (rows = [] → w = .sl none 0 0 0) ∧ (∀ n b, H0.get n = some b → H'.get n = some b) ∧ ∀ p ∈ qseg w wc, H'.get p.1 = p.2 ∧ H0.next ≤ p.1
def PF15 (H0 : AH) (rows : List (Int × Int)) (K C : Nat) (T : Tm) (H : AH) : Prop := ∃ T' H', execC (exec tabS spS K) K xs15 T H = some (.ret, T', H') ∧ H'.next ≤ C ∧ Post15 H0 rows T' H'
def unseen (es : List (Int × Nat)) (seen : Array Nat) : List (Int × Nat) := es.filter fun p => decide (p.2 ∉ seen.toList)
/-- The first loop's state. -/
def Inv15 (H0 : AH) (a nm : Nat) (c : Int) (A : Option Blk) (es : List (Int × Nat)) (k : Nat) (seen : Array Nat) (T : Tm) (H : AH) : Prop := ∃ (vis : List (Int × Nat)) (hv : AV) (hc : List AV), vis.map (·.2) = seen.toList ∧ (∀ p ∈ vis, p ∈ es) ∧ (vis.map (·.2)).Nodup ∧ vis.length + (unseen es seen).length ≤ es.length ∧ (unseen es seen).length ≤ k ∧ T.get 0 = .p (some (a, 0)) ∧ T.get 3 = hv ∧ T.get 15 = .p (some (nm, 0)) ∧
  Sq 1 hv hc (lU (vis.map fun p => dst c p.1)) ∧ Hs H ([(a, A)] ++ (qseg hv hc ++ restL H0 [a]))
theorem unseen_push {es : List (Int × Nat)} {seen : Array Nat} {p : Int × Nat} (hp : p ∈ es) (hn : p.2 ∉ seen.toList) : (unseen es (seen.push p.2)).length < (unseen es seen).length := by
  have e : unseen es (seen.push p.2) = (unseen es seen).filter fun q => decide (q.2 ≠ p.2) := by
    unfold unseen
    rw [List.filter_filter]
    congr 1
    funext q
    simp only [Array.toList_push, List.mem_append, List.mem_singleton]
    by_cases h1 : q.2 ∈ seen.toList <;> by_cases h2 : q.2 = p.2 <;> simp [h1, h2]
  rw [e]
  refine List.length_filter_lt_length_iff_exists.2 ⟨p, List.mem_filter.2 ⟨hp, by simpa using hn⟩, by simp⟩
theorem vis_perm {es vis : List (Int × Nat)} {seen : Array Nat} (hb : (es.map (·.2)).Nodup) (h1 : vis.map (·.2) = seen.toList) (h2 : ∀ p ∈ vis, p ∈ es) (h3 : (vis.map (·.2)).Nodup) (h4 : ∀ p ∈ es, p.2 ∈ seen.toList) : vis.Perm es := by
  have nd : ∀ {l : List (Int × Nat)}, (l.map (·.2)).Nodup → l.Nodup := fun h => (List.pairwise_map.1 h).imp fun h e => h (by rw [e])
  have inj : ∀ {l : List (Int × Nat)}, (l.map (·.2)).Nodup → ∀ p ∈ l, ∀ q ∈ l, p.2 = q.2 → p = q := by
    intro l
    induction l with
    | nil => intro _ p hp; simp at hp
    | cons a l ih =>
      intro h p hp q hq e
      rw [List.map_cons, List.nodup_cons] at h
      rcases List.mem_cons.1 hp with e1 | hp1
      · rcases List.mem_cons.1 hq with e2 | hq1
        · rw [e1, e2]
        · exact absurd (List.mem_map.2 ⟨q, hq1, by rw [← e, e1]⟩) h.1
      · rcases List.mem_cons.1 hq with e2 | hq1
        · exact absurd (List.mem_map.2 ⟨p, hp1, by rw [e, e2]⟩) h.1
        · exact ih h.2 p hp1 q hq1 e
  refine (List.perm_ext_iff_of_nodup (nd h3) (nd hb)).2 fun p => ⟨h2 p, fun hp => ?_⟩
  have := h4 p hp
  rw [← h1] at this
  obtain ⟨q, hq, e⟩ := List.mem_map.1 this
  rw [← inj hb q (h2 q hq) p hp e]; exact hq

section
variable {H : AH} {a m : Nat} {c : Int} {x : AV} {l : List Int} {es : List (Int × Nat)} {cl N : Nat} {R : HL}
theorem inv15 (hS : SortOK N) (hN : N ≤ 1000000) (hl : l.length ≤ N) (hu : Um l es cl) (hma : m ≠ a) (hm : H.get m = some (.map (es.map uent) cl)) (hok : H.Ok) (hA : H.get a = some (.cells [.i .u32 c, .m (some m), x] true)) {nm : Nat} :
    ∀ k seen T H1, Inv15 H a nm c (some (.cells [.i .u32 c, .m (some m), x] true)) es k seen T H1 → ∃ es2, Basic 15 nm m cl cl T H1 es2 ∧ (k = 0 → ∀ y ∈ es2, y.2.2 ∈ seen.toList) ∧ ((∀ y ∈ es2, y.2.2 ∈ seen.toList) → Inf fun K C => PF15 H (blocksF c l) K C (mov 16 17 T) H1) ∧
      ∀ y ∈ es2, y.2.2 ∉ seen.toList → C tabS spS (.seq (.region l15) xb15) (mst 16 17 18 T y) H1 (fun e T' H' => e = .norm ∧ Inv15 H a nm c (some (.cells [.i .u32 c, .m (some m), x] true)) es (k - 1) (seen.push y.2.2) T' H') := by
  rintro k seen T H1 ⟨vis, hv, hc, v1, v2, v3, v5, v4, t0, t3, t15, hd, hH⟩
  have hmn : m < H.next := hok _ _ hm
  have hm1 : H1.get m = some (.map (es.map uent) cl) := (restL_get hH.unassoc hmn (by simpa using hma)).trans hm
  have hbn : (es.map uent).map (·.2.2) = es.map (·.2) := by rw [List.map_map]; rfl
  have hel : es.length = l.length := by rw [← hu.keys, List.length_map]
  refine ⟨es.map uent, ⟨t15, hm1, fun y hy => ?_, by rw [hbn]; exact hu.born⟩, fun hk y hy => ?_, fun hall => ?_, fun y hy hn => ?_⟩
  · obtain ⟨p, hp, rfl⟩ := List.mem_map.1 hy
    exact hu.old p hp
  · obtain ⟨p, hp, rfl⟩ := List.mem_map.1 hy
    have h0 : unseen es seen = [] := List.length_eq_zero_iff.1 (by omega)
    unfold unseen at h0
    rw [List.filter_eq_nil_iff] at h0
    have := h0 p hp
    show p.2 ∈ seen.toList
    simpa using this
  · have hp := vis_perm hu.born v1 v2 v3 fun p hp => hall (uent p) (List.mem_map.2 ⟨p, hp, rfl⟩)
    have hms : msort (vis.map fun p => dst c p.1) = msort (l.map (dst c)) := by
      refine msort_perm ?_
      have := hp.map fun p => dst c p.1
      rw [← hu.keys, List.map_map]
      exact this
    have h3 : (mov 16 17 T).get 3 = hv := by unfold mov; rw [Tm.get_set, Tm.get_set]; exact t3
    have W := s15_ev (T := mov 16 17 T) hS hN (by rw [List.length_map, hp.length_eq, hel]; exact hl) h3 hd hH.top1
    obtain ⟨k0, e, T', H', T2, g1, te, rfl, w, wc, f1, f2, f3, f4⟩ := W _ (fun _ => rfl)
    rw [hms] at f2 f3
    refine ⟨k0, H'.next, fun K hK C hC => ⟨T', H', execC_mono (exec_mono hK) hK _ g1, hC, w, wc, (te 2).trans f1, f2, fun h => ?_, fun n b hb => ?_, fun q hq => ⟨(f4.all q (List.mem_append.2 (.inl hq))).1, ?_⟩⟩⟩
    · refine f3 ?_
      unfold blocksF at h
      rw [List.take_eq_nil_iff] at h
      rcases h with h | h
      · cases h
      · exact h
    · by_cases e : n = a
      · subst e
        rw [(f4.all (n, _) (List.mem_append.2 (.inr (List.mem_append.2 (.inl (List.mem_singleton.2 rfl)))))).1, ← hb, hA]
      · rw [restL_get (Hs.unassoc f4) (hok n b hb) (by simpa using e)]; exact hb
    · refine Nat.le_of_not_lt fun hlt => ?_
      have nd := f4.nd
      rw [List.map_append, List.nodup_append] at nd
      refine nd.2.2 q.1 (List.mem_map.2 ⟨q, hq, rfl⟩) q.1 ?_ rfl
      rw [List.map_append]
      by_cases e : q.1 = a
      · exact List.mem_append.2 (.inl (by simp [e]))
      · refine List.mem_append.2 (.inr (List.mem_map.2 ⟨(q.1, H.get q.1), List.mem_map.2 ⟨q.1, List.mem_filter.2 ⟨by simpa using hlt, by simpa using e⟩, rfl⟩, rfl⟩))
  · obtain ⟨p, hp, rfl⟩ := List.mem_map.1 hy
    have hn' : p.2 ∉ seen.toList := hn
    have hup := unseen_push hp hn'
    have W := r15_ev (T := mst 16 17 18 T (uent p)) (it := .p (some (nm, 0))) (key := p.1) (by unfold mst; simp only [Tm.get_set]; exact t0) (by unfold mst; simp only [Tm.get_set]; exact t3) (by unfold mst; simp only [Tm.get_set]; exact t15) (by unfold mst; simp only [Tm.get_set]; rfl) hd (by rw [List.length_map]; omega) hH
    intro Tx te
    obtain ⟨k0, e, T', H', T2, g1, te2, g2, g3, g4, hv', hc', g5, g6, g7⟩ := W Tx te
    refine ⟨k0, e, T', H', T2, g1, te2, g2, vis ++ [p], hv', hc', ?_, ?_, ?_, ?_, ?_, g3, g5, g4, ?_, g7⟩
    · rw [List.map_append, v1, Array.toList_push]; rfl
    · intro q hq
      rcases List.mem_append.1 hq with hq | hq
      · exact v2 q hq
      · rw [List.mem_singleton] at hq; subst hq; exact hp
    · rw [List.map_append, List.nodup_append]
      refine ⟨v3, by simp, fun b hb d hd' e => ?_⟩
      rw [v1] at hb
      simp only [List.map_cons, List.map_nil, List.mem_singleton] at hd'
      subst hd' e
      exact hn' hb
    · rw [List.length_append, List.length_singleton]
      show _ + 1 + (unseen es (seen.push p.2)).length ≤ _
      omega
    · show (unseen es (seen.push p.2)).length ≤ _
      omega
    · rw [List.map_append]; exact g6
theorem inv15_te {H0 : AH} {a nm : Nat} {c : Int} {A : Option Blk} {es : List (Int × Nat)} : ∀ k seen T T' H, Inv15 H0 a nm c A es k seen T H → TE T' T → Inv15 H0 a nm c A es k seen T' H := by
  rintro k seen T T' H ⟨vis, hv, hc, v1, v2, v3, v5, v4, t0, t3, t15, hd, hH⟩ te
  exact ⟨vis, hv, hc, v1, v2, v3, v5, v4, (te 0).trans t0, (te 3).trans t3, (te 15).trans t15, hd, hH⟩
theorem callS (K : Nat) : CallOK Try.prog (exec tabS spS K) := exec_ok mixed tabS_ok spS_ok K
abbrev T15a (a : Nat) : Tm := [(0, .p (some (a, 0))), (2, .sl none 0 0 0)]
abbrev T15b (a : Nat) : Tm := [(0, .p (some (a, 0))), (2, .sl none 0 0 0), (9, .p (some (a, 0))), (10, .b false)]
abbrev T15c (a : Nat) : Tm := [(0, .p (some (a, 0))), (2, .sl none 0 0 0), (9, .p (some (a, 0))), (10, .b false), (3, .sl none 0 0 0)]
abbrev T15d (a m : Nat) : Tm := [(0, .p (some (a, 0))), (2, .sl none 0 0 0), (9, .p (some (a, 0))), (10, .b false), (3, .sl none 0 0 0), (11, .p (some (a, 0))), (12, .p (some (a, 0))), (13, .p (some (a, 1))), (14, .m (some m))]
theorem run15 {K : Nat} (hA : H.get a = some (.cells [.i .u32 c, .m (some m), x] true)) : runOps (exec tabS spS K) l15_4 (T15c a) H = some (T15d a m, H) := by
  simp [l15_4, runOps, XOper.wanted, XOp.run, XOp.look, XO.ev, Tm.get, Tm.put, Tm.set, hA]
theorem blocks_spk (hS : SortOK N) (hN : N ≤ 1000000) (hl : l.length ≤ N) {mb : Blk} (hb : Ub l mb) (hH : Hs H ([(a, some (.cells [.i .u32 c, .m (some m), x] true))] ++ ([(m, some mb)] ++ R))) :
    ∃ v H', Out15 (blocksF c l) H v H' ∧ SPk Try.prog 15 [.p (some (a, 0))] H v H' := by
  obtain ⟨es, cl, rfl, hu⟩ := hb
  have hok : H.Ok := hH.ok
  have hA : H.get a = some (.cells [.i .u32 c, .m (some m), x] true) := hH.get
  have hm : H.get m = some (.map (es.map uent) cl) := hH.get1
  have hma : m ≠ a := fun e => by subst e; rw [hm] at hA; cases hA
  have hel : es.length = l.length := by rw [← hu.keys, List.length_map]
  have hH1 : Hs { H with next := H.next + 1 } ([(a, some (.cells [.i .u32 c, .m (some m), x] true))] ++ ([] ++ restL H [a])) := by
    have h1 : Hs H ([(a, some (.cells [.i .u32 c, .m (some m), x] true))] ++ restL H [a]) := restL_hs (L := [(a, some (.cells [.i .u32 c, .m (some m), x] true))]) (Hs.sub (A := [(m, some (.map (es.map uent) cl))] ++ R) (by have := hH.perm List.perm_append_comm; exact this))
    exact h1.keep (H' := { H with next := H.next + 1 }) (Nat.le_succ _) (fun q _ => rfl) fun q b hb => Nat.lt_succ_of_lt (hok q b hb)
  have hI : Inv15 H a H.next c (some (.cells [.i .u32 c, .m (some m), x] true)) es es.length #[] ((T15d a m).set 15 (.p (some (H.next, 0)))) { H with next := H.next + 1 } := by
    refine ⟨[], .sl none 0 0 0, [], rfl, by simp, by simp, ?_, ?_, ?_, ?_, ?_, Sq.nil, hH1⟩
    · unfold unseen; simpa using List.length_filter_le _ _
    · unfold unseen; exact List.length_filter_le _ _
    · rfl
    · rfl
    · rfl
  obtain ⟨K, C, hF⟩ := fin_inf (tab := tabS) (sp := spS) (l2 := l15) (xb := xb15) (tI := 15) (tN := 16) (tB := 17) (tE := 18) (nm := H.next) (m := m) (since := cl) (cl := cl) (PF := PF15 H (blocksF c l)) inv15_te (inv15 hS hN hl hu hma hm hok hA) es.length #[] _ _ hI
  have hF0 := hF (max K 1) (Nat.le_max_left ..) (max C H.next) (Nat.le_max_left ..)
  obtain ⟨K1, hK1, hK1'⟩ : ∃ K1, K1 = max K 1 ∧ 1 ≤ K1 := ⟨_, rfl, Nat.le_max_right ..⟩
  obtain ⟨C1, hC1, hC1'⟩ : ∃ C1, C1 = max C H.next ∧ H.next ≤ C1 := ⟨_, rfl, Nat.le_max_right ..⟩
  rw [← hK1, ← hC1] at hF0
  have main : ∀ B w0 ρ w (av : Array Value) (n : Nat), Rel Try.prog B w0 ρ H w → VRL ρ [.p (some (a, 0))] av.toList → ∀ Q : Exit → Act → World → Prop, (∀ e T' H' ρ' w' tmps' ds', (e = Exit.normal ∨ e = .ret) → (H'.next ≤ C1 ∧ Post15 H (blocksF c l) T' H') → Rel Try.prog B w0 ρ' H' w' → TR ρ' fn15.ntmps T' tmps' → MK w.heap.size ρ' w' ds' → St ρ H w ρ' H' w' → Q e ⟨tmps', ds'⟩ w') →
      Code.wpIn Fence.wide n Try.prog (.seq (cfst bd15) (.seq (cfst (csnd bd15)) (.seq (cfst (csnd (csnd bd15))) (.seq (.seq (.region 4 r15_4 false) (.block 0 (.loop (.seq (.region 5 r15_5 false) (.seq (.cond (.tmp 17) .skip (.exit 0)) (.block 1 (.seq (.region 6 r15_6 false) b15))))))) (csnd md15))))) Q ⟨av ++ Array.replicate (fn15.ntmps - av.size) undef, []⟩ w := by
    intro B w0 ρ w av n hR hv Q hQ
    have hT0 := args_ok hv fn15.ntmps
    rw [fn15_ntmps] at hT0 hQ ⊢
    have hcall := callS K1
    obtain ⟨K2, rfl⟩ : ∃ K2, K1 = K2 + 1 := ⟨K1 - 1, by omega⟩
    refine wpIn_seq (execC_ok (ro := none) hcall mixed w.heap.size 0 (cfst bd15) xr15_0 c15_0 (.inl rfl) _ (T15a a) _ H .norm _ _ _ _ _ _ hR hT0 (MK.nil _ _ _) (Nat.le_refl _) rfl _ fun ρ1 w1 t1 d1 a1 a2 a3 a4 => ?_)
    show Code.wpIn (Fw none) n Try.prog _ _ _ _
    refine wpIn_seq (execC_ok (ro := none) hcall mixed w.heap.size 0 (cfst (csnd bd15)) xr15_1 c15_1 (.inl rfl) _ (T15b a) _ H .norm _ _ _ _ _ _ a1 a2 a4 a3.size rfl _ fun ρ2 w2 t2 d2 b1 b2 b3 b4 => ?_)
    show Code.wpIn (Fw none) n Try.prog _ _ _ _
    refine wpIn_seq (execC_ok (ro := none) hcall mixed w.heap.size 0 (cfst (csnd (csnd bd15))) xr15_3 c15_3 (.inl rfl) _ (T15c a) _ H .norm _ _ _ _ _ _ b1 b2 b4 (a3.trans b3).size rfl _ fun ρ3 w3 t3 d3 e1 e2 e3 e4 => ?_)
    have s3 := (a3.trans b3).trans e3
    show Code.wpIn (Fw none) n Try.prog _ _ _ _
    refine wpIn_seq (range_loop (ro := none) (tab := tabS) (sp := spS) (T1 := T15d a m) (N := 75) hcall mixed (.inl rfl) z15_4 c15_l4 o15_4 t55 o15_5 o15_6 z15_6 c15_l6 c15_b (by decide) (by decide) (run15 hA) rfl hm hF0 e1 e2 e4 s3.size fun T' H' ρ4 w4 t4 d4 hP f1 f2 f3 f4 => ?_)
    obtain ⟨T2, H2, g1, g2, g3⟩ := hP
    show Code.wpIn (Fw none) n Try.prog _ _ _ _
    refine execC_ok (ro := none) hcall mixed w.heap.size (K2 + 1) (csnd md15) xs15 c15_s (.inl rfl) _ _ _ _ _ _ _ _ _ _ _ f1 f2 f3 (s3.trans f4).size g1 _ fun ρ5 w5 t5 d5 k1 k2 k3 k4 => ?_
    exact hQ .ret T2 H2 ρ5 w5 t5 d5 (.inr rfl) ⟨g2, g3⟩ k1 k2 k4 ((s3.trans f4).trans k3)
  by_cases hr : blocksF c l = []
  · refine ⟨_, _, ⟨C1, hC1', .inl ⟨hr, rfl, rfl⟩⟩, spk_of fn15_get fn15_body fn15_name fn15_res (PF := fun T' H' => H'.next ≤ C1 ∧ Post15 H (blocksF c l) T' H') main ?_⟩
    rintro T' H' ⟨hn, w, wc, p1, p2, p3, p4, p5⟩
    refine ⟨[w], by simp only [resL, XRes.get, p1], fun B w0 ρ w9 ρ' w' q1 q2 q3 => ?_⟩
    obtain ⟨r1, r2⟩ := Rel.none (H3 := ⟨H.bl, C1⟩) q2 q3 (fun n b h => p4 n b h) hn (fun n h => h.2)
    exact ⟨ρ', r1, r2, fun cv h => by rw [p3 hr] at h; exact h⟩
  · refine ⟨_, _, ⟨C1, hC1', .inr ⟨hr, rfl, rfl⟩⟩, spk_of fn15_get fn15_body fn15_name fn15_res (PF := fun T' H' => H'.next ≤ C1 ∧ Post15 H (blocksF c l) T' H') main ?_⟩
    rintro T' H' ⟨hn, w, wc, p1, p2, p3, p4, p5⟩
    refine ⟨[w], by simp only [resL, XRes.get, p1], fun B w0 ρ w9 ρ' w' q1 q2 q3 => ?_⟩
    have hpos : 0 < (blocksF c l).length := by cases h : blocksF c l with | nil => exact absurd h hr | cons _ _ => simp
    obtain ⟨b, o, cap, g, rfl, k1, k2, k3, k4⟩ := p2.open (rw2_len _) (by decide) hpos
    obtain ⟨m1, m2⟩ := p5 (b, some (.cells wc true)) (by rw [qseg_sl]; exact List.mem_singleton.2 rfl)
    exact Rel.res q2 q3 q1.dom hok p4 m2 hn m1 k2 k4 k1 hpos (by decide)
end


set_option linter.unusedVariables false
set_option linter.unusedSimpArgs false
open Go.Sort (ltInt)
theorem take_step {α : Type} {a b : List α} {d : α} {i : Nat} (h : a.take i = b.take i) (ha : i < a.length) (hb : i < b.length) (e : a.getD i d = b.getD i d) : a.take (i + 1) = b.take (i + 1) := by
  rw [List.take_add_one, List.take_add_one, h, List.getElem?_eq_getElem ha, List.getElem?_eq_getElem hb]
  simp only [List.getD_eq_getElem?_getD, List.getElem?_eq_getElem ha, List.getElem?_eq_getElem hb, Option.getD_some] at e
  rw [e]
theorem take_done {α : Type} {a b : List α} {i : Nat} (h : a.take i = b.take i) (ha : a.length ≤ i) (hb : b.length ≤ i) : a = b := by
  rwa [List.take_of_length_le ha, List.take_of_length_le hb] at h
/-! ### The functions that go through a map -/
def R10 : Nat → List AV → AH → AV → AH → Prop := fun g args H v H' =>
  (g = 15 → ∀ (a : Nat) (c : Int) (m : Nat) (x : AV) (es : List (Int × Nat)) (cl : Nat), args = [.p (some (a, 0))] → H.get a = some (.cells [.i .u32 c, .m (some m), x] true) → H.get m = some (.map (es.map uent) cl) → Out15 (blocksF c (es.map (·.1))) H v H') ∧ (g = 15 → args = [.p none] → v = .sl none 0 0 0 ∧ H' = H)
noncomputable def spA := spC Try.prog R10
theorem spA_ok : SpOK Try.prog tabS spA := spC_ok
theorem uent_inj {a b : List (Int × Nat)} (h : a.map uent = b.map uent) : a = b := by
  induction a generalizing b with
  | nil => cases b with | nil => rfl | cons _ _ => simp at h
  | cons p a ih =>
    cases b with
    | nil => simp at h
    | cons q b =>
      simp only [List.map_cons, List.cons.injEq, uent, Prod.mk.injEq, AV.i.injEq, true_and] at h
      rw [ih h.2, Prod.ext h.1.1 h.1.2]
theorem out15_hs {rows : List (Int × Int)} {H H' : AH} {v : AV} {S R : HL} (h : Out15 rows H v H') (hH : Hs H (S ++ R)) : ∃ rc, Sq 2 v rc (rw2 rows).flatten ∧ Hs H' (S ++ (qseg v rc ++ R)) := by
  obtain ⟨C, hC, h⟩ := h
  have h1 : Hs ⟨H.bl, C⟩ (S ++ R) := hH.keep hC (fun q _ => rfl) fun q b hb => Nat.lt_of_lt_of_le (hH.ok q b hb) hC
  rcases h with ⟨rfl, rfl, rfl⟩ | ⟨hne, rfl, rfl⟩
  · exact ⟨[], Sq.nil, h1⟩
  · refine ⟨_, Sq.full (.inr rfl) (rw2_len rows), ?_⟩
    have h2 := h1.new (n := C) (c := .cells (rw2 rows).flatten true) (H' := ⟨(C, some (.cells (rw2 rows).flatten true)) :: H.bl, C + 1⟩) ⟨rfl, rfl, by simp [AH.get, AH.getL], fun m hm => by simp [AH.get, AH.getL, Ne.symm hm]⟩
    rw [qseg_sl]
    exact h2.perm (List.perm_append_comm_assoc _ _ _)
theorem blocks_ev {H : AH} {a N : Nat} {s : Gp} {S R : HL} (hS : SortOK N) (hN : N ≤ 1000000) (hl : s.l.length ≤ N) (hG : GpH s a S) (hH : Hs H (S ++ R)) : Ev tabS spA (.fn (.func 15) [] []) [.p (some (a, 0))] H (fun r H' => ∃ rc, Sq 2 r rc (rw2 (blocksF s.c s.l)).flatten ∧ Hs H' (S ++ (qseg r rc ++ R))) := by
  obtain ⟨m, mb, dv, dc, hb, hd, rfl⟩ := hG
  have hH2 := hH.assoc.assoc1
  obtain ⟨v, H', h1, h2⟩ := blocks_spk hS hN hl hb hH2
  obtain ⟨es, cl, rfl, hu⟩ := hb
  have hA : H.get a = _ := hH2.get
  have hm : H.get m = _ := hH2.get1
  refine Ev.mono (spC_ev (R := R10) (g := 15) rfl ⟨v, H', ⟨fun _ a2 c2 m2 x2 es2 cl2 e1 e2 e3 => ?_, fun _ e => by simp at e⟩, h2⟩) fun r H3 h => ?_
  · simp only [List.cons.injEq, AV.p.injEq, Option.some.injEq, Prod.mk.injEq, and_true] at e1
    subst e1
    rw [hA] at e2
    simp only [Option.some.injEq, Blk.cells.injEq, List.cons.injEq, AV.i.injEq, AV.m.injEq, true_and, and_true] at e2
    obtain ⟨rfl, rfl, rfl⟩ := e2
    rw [hm] at e3
    simp only [Option.some.injEq, Blk.map.injEq] at e3
    rw [← uent_inj e3.1, hu.keys]
    exact h1
  · have := h.1 rfl a s.c m dv es cl rfl hA hm
    rw [hu.keys] at this
    exact out15_hs this hH
theorem blocksN_ev {H : AH} {R : HL} (hH : Hs H R) : Ev tabS spA (.fn (.func 15) [] []) [.p none] H (fun r H' => r = .sl none 0 0 0 ∧ Hs H' R) := by
  refine Ev.mono (spC_ev (R := R10) (g := 15) rfl ⟨.sl none 0 0 0, H, ⟨fun _ a2 c2 m2 x2 es2 cl2 e1 e2 e3 => by simp at e1, fun _ _ => ⟨rfl, rfl⟩⟩, ?_⟩) fun r H3 h => ?_
  · intro B w0 ρ w vs hR hv
    exact fun_ok (callS 0) mixed (lf := 0) (F := x15) x15_ok (e := .ret) (T' := [(0, .p none), (2, .sl none 0 0 0), (9, .p none), (10, .b true)]) (H' := H) rfl (.inr rfl) rfl hR hv
  · obtain ⟨rfl, rfl⟩ := h.2 rfl rfl
    exact ⟨rfl, hH⟩
theorem blk_ev {H : AH} {R : HL} {va vb : AV} {ca cb : List AV} {la lb : List (Int × Int)} (ha : Sq 2 va ca (rw2 la).flatten) (hb : Sq 2 vb cb (rw2 lb).flatten) (hla : la.length ≤ 1000000) (hlb : lb.length ≤ 1000000) (hH0 : Hs H (qseg va ca ++ (qseg vb cb ++ R))) : Ev tabS spA (.fn (.func 25) [] []) [va, vb] H (fun r H' => r = .b (decide (la = lb)) ∧ Hs H' (qseg va ca ++ (qseg vb cb ++ R))) := by
  refine Ev_C (F := x25) rfl ?_
  refine C_seq ?_
  refine C_region ?_
  refine O_p (.b false) (r_mv rfl) ?_
  refine O_nil ?_
  refine C_seq ?_
  refine C_seq ?_
  refine C_region ?_
  refine O_p va (r_mv rfl) ?_
  refine O_p (.i .i64 (((la.length : Nat)) : Int)) (by exact (by exact r_lenOf rfl (ha.lenOf (rw2_len la) (by decide)) ha.isSl)) ?_
  refine O_p vb (r_mv rfl) ?_
  refine O_p (.i .i64 (((lb.length : Nat)) : Int)) (by exact (by exact r_lenOf rfl (hb.lenOf (rw2_len lb) (by decide)) hb.isSl)) ?_
  refine O_p (.b (!decide ((((la.length : Nat)) : Int) = (((lb.length : Nat)) : Int)))) (r_neq rfl rfl) ?_
  refine O_nil ?_
  refine C_cond (x := (!decide ((((la.length : Nat)) : Int) = (((lb.length : Nat)) : Int)))) rfl (fun hc1 => ?_) (fun hc1 => ?_)
  ·
    try simp only [decide_eq_true_eq, decide_eq_false_iff_not, Bool.not_eq_true', Bool.not_eq_false', Bool.and_eq_true, Bool.or_eq_true, Bool.or_eq_false_iff, Bool.not_not, Bool.and_eq_false_iff] at hc1
    have hne : la ≠ lb := fun e9 => hc1 (by rw [e9])
    refine C_seq ?_
    refine C_region ?_
    refine O_p (.b false) (r_mv rfl) ?_
    refine O_nil ?_
    refine C_ret ?_
    refine nx_ret ?_
    have hH2 := ((hH0.top1).top1)
    exact ⟨.inr rfl, _, resL_one (r_tmp (v := .b false) rfl), congrArg AV.b (decide_eq_false hne).symm, hH2⟩
  ·
    try simp only [decide_eq_true_eq, decide_eq_false_iff_not, Bool.not_eq_true', Bool.not_eq_false', Bool.and_eq_true, Bool.or_eq_true, Bool.or_eq_false_iff, Bool.not_not, Bool.and_eq_false_iff] at hc1
    have hll : la.length = lb.length := by omega
    refine C_skip ?_
    refine C_seq ?_
    refine C_seq ?_
    refine C_region ?_
    refine O_p (.i .i64 0) (r_mv rfl) ?_
    refine O_nil ?_
    refine C_block ?_
    refine C_while (fun m3 T4 H5 => ∃ i : Nat, m3 = la.length - i ∧ i ≤ la.length ∧ la.take i = lb.take i ∧ Hs H5 ((qseg va ca) ++ ((qseg vb cb) ++ (R))) ∧ T4.get 0 = va ∧ T4.get 1 = vb ∧ T4.get 5 = (.i .i64 (((i : Nat)) : Int))) (fun m3 T4 H5 hI6 => ?_) la.length _ _ ⟨0, rfl, by omega, rfl, hH0, rfl, rfl, rfl⟩
    obtain ⟨i, hm7, hp8, hp9, hH13, hT10, hT11, hT12⟩ := hI6
    refine C_seq ?_
    refine C_seq ?_
    refine C_region ?_
    refine O_p (.i .i64 (((i : Nat)) : Int)) (r_mv hT12) ?_
    refine O_p va (r_mv hT10) ?_
    refine O_p (.i .i64 (((la.length : Nat)) : Int)) (by exact (by exact r_lenOf rfl (ha.lenOf (rw2_len la) (by decide)) ha.isSl)) ?_
    refine O_p (.b (decide ((((i : Nat)) : Int) < (((la.length : Nat)) : Int)))) (r_lss rfl rfl) ?_
    refine O_nil ?_
    refine C_cond (x := (decide ((((i : Nat)) : Int) < (((la.length : Nat)) : Int)))) rfl (fun hc14 => ?_) (fun hc14 => ?_)
    ·
      try simp only [decide_eq_true_eq, decide_eq_false_iff_not, Bool.not_eq_true', Bool.not_eq_false', Bool.and_eq_true, Bool.or_eq_true, Bool.or_eq_false_iff, Bool.not_not, Bool.and_eq_false_iff] at hc14
      have hlt1 : i < la.length := by omega
      have hlt2 : i < lb.length := by omega
      refine C_skip ?_
      refine C_seq ?_
      refine C_block ?_
      refine C_seq ?_
      by_cases h1q : (la.getD i (0, 0)).1 = (lb.getD i (0, 0)).1
      ·
        refine C_draw fun b15 H16 hbase17 hA18 => ?_
        have hH19 := hH13.keep (by have := hA18.1; omega) (fun q _ => hA18.2 q) ((hH13.old).aside hA18).ok
        refine D_l (v := va) rfl rfl rfl (r_mv hT10) ?_
        refine D_l (v := (.i .i64 (((i : Nat)) : Int))) rfl rfl rfl (r_mv hT12) ?_
        refine D_q rfl rfl rfl (by exact Sq.cell ha (rw2_lens la) hH19.top0 rfl (i := i) rfl (r := [(.i .u16 (la.getD i (0, 0)).1), (.i .u16 (la.getD i (0, 0)).2)]) (rw2_get (l := la) (i := i) (by omega)) (by decide)) fun v21 hv20 => ?_
        obtain ⟨rb22, ro23, rfl, hrg24, hrt25, hrb26, hput27, hqs28⟩ := hv20
        refine D_l (v := (.p (some (rb22, (ro23 + 0))))) rfl rfl rfl (r_fadd' rfl rfl) ?_
        refine D_l (v := vb) rfl rfl rfl (r_mv hT11) ?_
        refine D_l (v := (.i .i64 (((i : Nat)) : Int))) rfl rfl rfl (r_mv hT12) ?_
        refine D_q rfl rfl rfl (by exact Sq.cell hb (rw2_lens lb) hH19.top1 rfl (i := i) rfl (r := [(.i .u16 (lb.getD i (0, 0)).1), (.i .u16 (lb.getD i (0, 0)).2)]) (rw2_get (l := lb) (i := i) (by omega)) (by decide)) fun v30 hv29 => ?_
        obtain ⟨rb31, ro32, rfl, hrg33, hrt34, hrb35, hput36, hqs37⟩ := hv29
        refine D_l (v := (.p (some (rb31, (ro32 + 0))))) rfl rfl rfl (r_fadd' rfl rfl) ?_
        refine D_r (v := (.i .u16 (la.getD i (0, 0)).1)) rfl rfl rfl (r_ldR (q := 0) rfl ⟨_, _, hrg24, hrt25⟩ rfl) ?_
        refine D_r (v := (.i .u16 (lb.getD i (0, 0)).1)) rfl rfl rfl (r_ldR (q := 0) rfl ⟨_, _, hrg33, hrt34⟩ rfl) ?_
        refine D_l (v := (.b false)) rfl rfl rfl (by exact (by rw [r_neq rfl rfl, decide_eq_true h1q]; rfl)) ?_
        refine D_l (v := (.b false)) rfl rfl rfl (r_mv rfl) ?_
        refine D_gk rfl ?_
        refine D_l (v := va) rfl rfl rfl (r_mv hT10) ?_
        refine D_gk rfl ?_
        refine D_l (v := (.i .i64 (((i : Nat)) : Int))) rfl rfl rfl (r_mv hT12) ?_
        refine D_gk rfl ?_
        refine D_q rfl rfl rfl (by exact Sq.cell ha (rw2_lens la) hH19.top0 rfl (i := i) rfl (r := [(.i .u16 (la.getD i (0, 0)).1), (.i .u16 (la.getD i (0, 0)).2)]) (rw2_get (l := la) (i := i) (by omega)) (by decide)) fun v39 hv38 => ?_
        obtain ⟨rb40, ro41, rfl, hrg42, hrt43, hrb44, hput45, hqs46⟩ := hv38
        refine D_gk rfl ?_
        refine D_l (v := (.p (some (rb40, (ro41 + 1))))) rfl rfl rfl (r_fadd' rfl rfl) ?_
        refine D_gk rfl ?_
        refine D_l (v := vb) rfl rfl rfl (r_mv hT11) ?_
        refine D_gk rfl ?_
        refine D_l (v := (.i .i64 (((i : Nat)) : Int))) rfl rfl rfl (r_mv hT12) ?_
        refine D_gk rfl ?_
        refine D_q rfl rfl rfl (by exact Sq.cell hb (rw2_lens lb) hH19.top1 rfl (i := i) rfl (r := [(.i .u16 (lb.getD i (0, 0)).1), (.i .u16 (lb.getD i (0, 0)).2)]) (rw2_get (l := lb) (i := i) (by omega)) (by decide)) fun v48 hv47 => ?_
        obtain ⟨rb49, ro50, rfl, hrg51, hrt52, hrb53, hput54, hqs55⟩ := hv47
        refine D_gk rfl ?_
        refine D_l (v := (.p (some (rb49, (ro50 + 1))))) rfl rfl rfl (r_fadd' rfl rfl) ?_
        refine D_gk rfl ?_
        refine D_r (v := (.i .u16 (la.getD i (0, 0)).2)) rfl rfl rfl (r_ldR (q := 1) rfl ⟨_, _, hrg42, hrt43⟩ rfl) ?_
        refine D_gk rfl ?_
        refine D_r (v := (.i .u16 (lb.getD i (0, 0)).2)) rfl rfl rfl (r_ldR (q := 1) rfl ⟨_, _, hrg51, hrt52⟩ rfl) ?_
        refine D_gk rfl ?_
        refine D_l (v := (.b (!decide ((la.getD i (0, 0)).2 = (lb.getD i (0, 0)).2)))) rfl rfl rfl (r_neq rfl rfl) ?_
        refine D_l (v := (.b (!decide ((la.getD i (0, 0)).2 = (lb.getD i (0, 0)).2)))) rfl rfl rfl (r_pick_f rfl rfl) ?_
        refine D_nil ?_
        refine C_cond (x := (!decide ((la.getD i (0, 0)).2 = (lb.getD i (0, 0)).2))) rfl (fun hc56 => ?_) (fun hc56 => ?_)
        ·
          have hraw := hc56
          try simp only [decide_eq_true_eq, decide_eq_false_iff_not, Bool.not_eq_true', Bool.not_eq_false', Bool.and_eq_true, Bool.or_eq_true, Bool.or_eq_false_iff, Bool.not_not, Bool.and_eq_false_iff] at hc56
          have hne : la ≠ lb := fun e9 => by rw [e9] at hraw; simp at hraw
          refine C_seq ?_
          refine C_region ?_
          refine O_p (.b false) (r_mv rfl) ?_
          refine O_nil ?_
          refine C_ret ?_
          refine bk_ret ?_
          refine nx_ret ?_
          refine nx_ret ?_
          refine bk_ret ?_
          refine nx_ret ?_
          have hH57 := ((hH19.top1).top1)
          exact ⟨.inr rfl, _, resL_one (r_tmp (v := .b false) rfl), congrArg AV.b (decide_eq_false hne).symm, hH57⟩
        ·
          have hraw := hc56
          try simp only [decide_eq_true_eq, decide_eq_false_iff_not, Bool.not_eq_true', Bool.not_eq_false', Bool.and_eq_true, Bool.or_eq_true, Bool.or_eq_false_iff, Bool.not_not, Bool.and_eq_false_iff] at hc56
          have heq : la.getD i (0, 0) = lb.getD i (0, 0) := Prod.ext h1q (by simpa using hraw)
          refine C_skip ?_
          refine C_region ?_
          refine O_p (.i .i64 (((i : Nat)) : Int)) (r_mv hT12) ?_
          refine O_p (.i .i64 ((((i : Nat)) : Int) + 1)) (by exact (r_addi rfl rfl (wrap_i64 (by omega) (by omega)))) ?_
          refine O_p (.i .i64 ((((i : Nat)) : Int) + 1)) (r_mv rfl) ?_
          refine O_nil ?_
          have hH58 := ((hH19.top1).top1)
          exact ⟨la.length - (i + 1), by omega, (i + 1), rfl, by omega, take_step hp9 hlt1 hlt2 heq, hH58, hT10, hT11, rfl⟩
      ·
        have hne : la ≠ lb := fun e9 => h1q (by rw [e9])
        refine C_draw fun b59 H60 hbase61 hA62 => ?_
        have hH63 := hH13.keep (by have := hA62.1; omega) (fun q _ => hA62.2 q) ((hH13.old).aside hA62).ok
        refine D_l (v := va) rfl rfl rfl (r_mv hT10) ?_
        refine D_l (v := (.i .i64 (((i : Nat)) : Int))) rfl rfl rfl (r_mv hT12) ?_
        refine D_q rfl rfl rfl (by exact Sq.cell ha (rw2_lens la) hH63.top0 rfl (i := i) rfl (r := [(.i .u16 (la.getD i (0, 0)).1), (.i .u16 (la.getD i (0, 0)).2)]) (rw2_get (l := la) (i := i) (by omega)) (by decide)) fun v65 hv64 => ?_
        obtain ⟨rb66, ro67, rfl, hrg68, hrt69, hrb70, hput71, hqs72⟩ := hv64
        refine D_l (v := (.p (some (rb66, (ro67 + 0))))) rfl rfl rfl (r_fadd' rfl rfl) ?_
        refine D_l (v := vb) rfl rfl rfl (r_mv hT11) ?_
        refine D_l (v := (.i .i64 (((i : Nat)) : Int))) rfl rfl rfl (r_mv hT12) ?_
        refine D_q rfl rfl rfl (by exact Sq.cell hb (rw2_lens lb) hH63.top1 rfl (i := i) rfl (r := [(.i .u16 (lb.getD i (0, 0)).1), (.i .u16 (lb.getD i (0, 0)).2)]) (rw2_get (l := lb) (i := i) (by omega)) (by decide)) fun v74 hv73 => ?_
        obtain ⟨rb75, ro76, rfl, hrg77, hrt78, hrb79, hput80, hqs81⟩ := hv73
        refine D_l (v := (.p (some (rb75, (ro76 + 0))))) rfl rfl rfl (r_fadd' rfl rfl) ?_
        refine D_r (v := (.i .u16 (la.getD i (0, 0)).1)) rfl rfl rfl (r_ldR (q := 0) rfl ⟨_, _, hrg68, hrt69⟩ rfl) ?_
        refine D_r (v := (.i .u16 (lb.getD i (0, 0)).1)) rfl rfl rfl (r_ldR (q := 0) rfl ⟨_, _, hrg77, hrt78⟩ rfl) ?_
        refine D_l (v := (.b true)) rfl rfl rfl (by exact (by rw [r_neq rfl rfl, decide_eq_false h1q]; rfl)) ?_
        refine D_l (v := (.b true)) rfl rfl rfl (r_mv rfl) ?_
        refine D_gf rfl ?_
        refine D_gf rfl ?_
        refine D_gf rfl ?_
        refine D_gf rfl ?_
        refine D_gf rfl ?_
        refine D_gf rfl ?_
        refine D_gf rfl ?_
        refine D_gf rfl ?_
        refine D_gf rfl ?_
        refine D_gf rfl ?_
        refine D_gf rfl ?_
        refine D_l (v := (.b true)) rfl rfl rfl (r_pick_t rfl rfl) ?_
        refine D_nil ?_
        refine C_cond (x := true) rfl (fun _ => ?_) (fun h => by cases h)
        refine C_seq ?_
        refine C_region ?_
        refine O_p (.b false) (r_mv rfl) ?_
        refine O_nil ?_
        refine C_ret ?_
        refine bk_ret ?_
        refine nx_ret ?_
        refine nx_ret ?_
        refine bk_ret ?_
        refine nx_ret ?_
        have hH82 := ((hH63.top1).top1)
        exact ⟨.inr rfl, _, resL_one (r_tmp (v := .b false) rfl), congrArg AV.b (decide_eq_false hne).symm, hH82⟩
    ·
      try simp only [decide_eq_true_eq, decide_eq_false_iff_not, Bool.not_eq_true', Bool.not_eq_false', Bool.and_eq_true, Bool.or_eq_true, Bool.or_eq_false_iff, Bool.not_not, Bool.and_eq_false_iff] at hc14
      refine C_exit ?_
      refine nx_exit ?_
      refine nx_exit ?_
      refine bk_hit ?_
      refine C_seq ?_
      refine C_region ?_
      refine O_p (.b true) (r_mv rfl) ?_
      refine O_nil ?_
      refine C_ret ?_
      have hH83 := ((hH13.top1).top1)
      exact ⟨.inr rfl, _, resL_one (r_tmp (v := .b true) rfl), congrArg AV.b (decide_eq_true (take_done hp9 (by omega) (by omega))).symm, hH83⟩
theorem num_ev {H : AH} {R : HL} {va vb : AV} {ca cb : List AV} {la lb : List Int} (ha : Sq 1 va ca (lU la)) (hb : Sq 1 vb cb (lU lb)) (hla : la.length ≤ 1000000) (hlb : lb.length ≤ 1000000) (hH0 : Hs H (qseg va ca ++ (qseg vb cb ++ R))) : Ev tabS spA (.fn (.func 22) [] []) [va, vb] H (fun r H' => r = .b (decide (la = lb)) ∧ Hs H' (qseg va ca ++ (qseg vb cb ++ R))) := by
  refine Ev_C (F := x22) rfl ?_
  refine C_seq ?_
  refine C_region ?_
  refine O_p (.b false) (r_mv rfl) ?_
  refine O_nil ?_
  refine C_seq ?_
  refine C_seq ?_
  refine C_region ?_
  refine O_p va (r_mv rfl) ?_
  refine O_p (.i .i64 (((la.length : Nat)) : Int)) (by exact (by exact r_lenOf rfl (ha.lenOf (lU_len la) (by decide)) ha.isSl)) ?_
  refine O_p vb (r_mv rfl) ?_
  refine O_p (.i .i64 (((lb.length : Nat)) : Int)) (by exact (by exact r_lenOf rfl (hb.lenOf (lU_len lb) (by decide)) hb.isSl)) ?_
  refine O_p (.b (!decide ((((la.length : Nat)) : Int) = (((lb.length : Nat)) : Int)))) (r_neq rfl rfl) ?_
  refine O_nil ?_
  refine C_cond (x := (!decide ((((la.length : Nat)) : Int) = (((lb.length : Nat)) : Int)))) rfl (fun hc1 => ?_) (fun hc1 => ?_)
  ·
    try simp only [decide_eq_true_eq, decide_eq_false_iff_not, Bool.not_eq_true', Bool.not_eq_false', Bool.and_eq_true, Bool.or_eq_true, Bool.or_eq_false_iff, Bool.not_not, Bool.and_eq_false_iff] at hc1
    have hne : la ≠ lb := fun e9 => hc1 (by rw [e9])
    refine C_seq ?_
    refine C_region ?_
    refine O_p (.b false) (r_mv rfl) ?_
    refine O_nil ?_
    refine C_ret ?_
    refine nx_ret ?_
    have hH2 := ((hH0.top1).top1)
    exact ⟨.inr rfl, _, resL_one (r_tmp (v := .b false) rfl), congrArg AV.b (decide_eq_false hne).symm, hH2⟩
  ·
    try simp only [decide_eq_true_eq, decide_eq_false_iff_not, Bool.not_eq_true', Bool.not_eq_false', Bool.and_eq_true, Bool.or_eq_true, Bool.or_eq_false_iff, Bool.not_not, Bool.and_eq_false_iff] at hc1
    have hll : la.length = lb.length := by omega
    refine C_skip ?_
    refine C_seq ?_
    refine C_seq ?_
    refine C_region ?_
    refine O_p (.i .i64 0) (r_mv rfl) ?_
    refine O_nil ?_
    refine C_block ?_
    refine C_while (fun m3 T4 H5 => ∃ i : Nat, m3 = la.length - i ∧ i ≤ la.length ∧ la.take i = lb.take i ∧ Hs H5 ((qseg va ca) ++ ((qseg vb cb) ++ (R))) ∧ T4.get 0 = va ∧ T4.get 1 = vb ∧ T4.get 5 = (.i .i64 (((i : Nat)) : Int))) (fun m3 T4 H5 hI6 => ?_) la.length _ _ ⟨0, rfl, by omega, rfl, hH0, rfl, rfl, rfl⟩
    obtain ⟨i, hm7, hp8, hp9, hH13, hT10, hT11, hT12⟩ := hI6
    refine C_seq ?_
    refine C_seq ?_
    refine C_region ?_
    refine O_p (.i .i64 (((i : Nat)) : Int)) (r_mv hT12) ?_
    refine O_p va (r_mv hT10) ?_
    refine O_p (.i .i64 (((la.length : Nat)) : Int)) (by exact (by exact r_lenOf rfl (ha.lenOf (lU_len la) (by decide)) ha.isSl)) ?_
    refine O_p (.b (decide ((((i : Nat)) : Int) < (((la.length : Nat)) : Int)))) (r_lss rfl rfl) ?_
    refine O_nil ?_
    refine C_cond (x := (decide ((((i : Nat)) : Int) < (((la.length : Nat)) : Int)))) rfl (fun hc14 => ?_) (fun hc14 => ?_)
    ·
      try simp only [decide_eq_true_eq, decide_eq_false_iff_not, Bool.not_eq_true', Bool.not_eq_false', Bool.and_eq_true, Bool.or_eq_true, Bool.or_eq_false_iff, Bool.not_not, Bool.and_eq_false_iff] at hc14
      have hlt1 : i < la.length := by omega
      have hlt2 : i < lb.length := by omega
      refine C_skip ?_
      refine C_seq ?_
      refine C_block ?_
      refine C_seq ?_
      refine C_draw fun b15 H16 hbase17 hA18 => ?_
      have hH19 := hH13.keep (by have := hA18.1; omega) (fun q _ => hA18.2 q) ((hH13.old).aside hA18).ok
      refine D_l (v := va) rfl rfl rfl (r_mv hT10) ?_
      refine D_l (v := (.i .i64 (((i : Nat)) : Int))) rfl rfl rfl (r_mv hT12) ?_
      refine D_q rfl rfl rfl (by exact Sq.cell ha (u1_lens la) hH19.top0 rfl (i := i) rfl (r := [(.i .u32 (la.getD i 0))]) (u1_get (l := la) (i := i) (by omega)) (by decide)) fun v21 hv20 => ?_
      obtain ⟨rb22, ro23, rfl, hrg24, hrt25, hrb26, hput27, hqs28⟩ := hv20
      refine D_l (v := vb) rfl rfl rfl (r_mv hT11) ?_
      refine D_l (v := (.i .i64 (((i : Nat)) : Int))) rfl rfl rfl (r_mv hT12) ?_
      refine D_q rfl rfl rfl (by exact Sq.cell hb (u1_lens lb) hH19.top1 rfl (i := i) rfl (r := [(.i .u32 (lb.getD i 0))]) (u1_get (l := lb) (i := i) (by omega)) (by decide)) fun v30 hv29 => ?_
      obtain ⟨rb31, ro32, rfl, hrg33, hrt34, hrb35, hput36, hqs37⟩ := hv29
      refine D_r (v := (.i .u32 (la.getD i 0))) rfl rfl rfl (r_ldR (q := 0) rfl ⟨_, _, hrg24, hrt25⟩ rfl) ?_
      refine D_r (v := (.i .u32 (lb.getD i 0))) rfl rfl rfl (r_ldR (q := 0) rfl ⟨_, _, hrg33, hrt34⟩ rfl) ?_
      refine D_l (v := (.b (!decide ((la.getD i 0) = (lb.getD i 0))))) rfl rfl rfl (r_neq rfl rfl) ?_
      refine D_nil ?_
      refine C_cond (x := (!decide ((la.getD i 0) = (lb.getD i 0)))) rfl (fun hc38 => ?_) (fun hc38 => ?_)
      ·
        have hraw := hc38
        try simp only [decide_eq_true_eq, decide_eq_false_iff_not, Bool.not_eq_true', Bool.not_eq_false', Bool.and_eq_true, Bool.or_eq_true, Bool.or_eq_false_iff, Bool.not_not, Bool.and_eq_false_iff] at hc38
        have hne : la ≠ lb := fun e9 => by rw [e9] at hraw; simp at hraw
        refine C_seq ?_
        refine C_region ?_
        refine O_p (.b false) (r_mv rfl) ?_
        refine O_nil ?_
        refine C_ret ?_
        refine bk_ret ?_
        refine nx_ret ?_
        refine nx_ret ?_
        refine bk_ret ?_
        refine nx_ret ?_
        have hH39 := ((hH19.top1).top1)
        exact ⟨.inr rfl, _, resL_one (r_tmp (v := .b false) rfl), congrArg AV.b (decide_eq_false hne).symm, hH39⟩
      ·
        have hraw := hc38
        try simp only [decide_eq_true_eq, decide_eq_false_iff_not, Bool.not_eq_true', Bool.not_eq_false', Bool.and_eq_true, Bool.or_eq_true, Bool.or_eq_false_iff, Bool.not_not, Bool.and_eq_false_iff] at hc38
        have heq : la.getD i 0 = lb.getD i 0 := by simpa using hraw
        refine C_skip ?_
        refine C_region ?_
        refine O_p (.i .i64 (((i : Nat)) : Int)) (r_mv hT12) ?_
        refine O_p (.i .i64 ((((i : Nat)) : Int) + 1)) (by exact (r_addi rfl rfl (wrap_i64 (by omega) (by omega)))) ?_
        refine O_p (.i .i64 ((((i : Nat)) : Int) + 1)) (r_mv rfl) ?_
        refine O_nil ?_
        have hH40 := ((hH19.top1).top1)
        exact ⟨la.length - (i + 1), by omega, (i + 1), rfl, by omega, take_step hp9 hlt1 hlt2 heq, hH40, hT10, hT11, rfl⟩
    ·
      try simp only [decide_eq_true_eq, decide_eq_false_iff_not, Bool.not_eq_true', Bool.not_eq_false', Bool.and_eq_true, Bool.or_eq_true, Bool.or_eq_false_iff, Bool.not_not, Bool.and_eq_false_iff] at hc14
      refine C_exit ?_
      refine nx_exit ?_
      refine nx_exit ?_
      refine bk_hit ?_
      refine C_seq ?_
      refine C_region ?_
      refine O_p (.b true) (r_mv rfl) ?_
      refine O_nil ?_
      refine C_ret ?_
      have hH41 := ((hH13.top1).top1)
      exact ⟨.inr rfl, _, resL_one (r_tmp (v := .b true) rfl), congrArg AV.b (decide_eq_true (take_done hp9 (by omega) (by omega))).symm, hH41⟩


set_option linter.unusedVariables false
set_option linter.unusedSimpArgs false
open Go.Sort (ltInt)
theorem aw0 : IntKind.u32.wrap (10 - 1) = 9 := by decide
theorem aw1 : Gp.add ⟨9, [], []⟩ 12 = ⟨9, [12], []⟩ := by unfold Gp.add; rw [if_neg (by decide), if_neg (by decide)]; show Gp.climb ⟨9, [12], []⟩ = _; unfold Gp.climb; rw [climbF_stop (by decide)]
theorem aw2 : Gp.add ⟨9, [12], []⟩ 13 = ⟨9, [12, 13], []⟩ := by unfold Gp.add; rw [if_neg (by decide), if_neg (by decide)]; show Gp.climb ⟨9, [12, 13], []⟩ = _; unfold Gp.climb; rw [climbF_stop (by decide)]
theorem aw3 : Gp.add ⟨9, [12, 13], []⟩ 10 = ⟨10, [12, 13], []⟩ := by
  unfold Gp.add; rw [if_neg (by decide), if_neg (by decide)]; show Gp.climb ⟨9, [12, 13, 10], []⟩ = _; unfold Gp.climb
  rw [climbF_step (by decide), show nxt 9 = 10 from rfl, show udel [12, 13, 10] 10 = [12, 13] by decide, climbF_stop (by decide)]
theorem aw4 : Gp.add ⟨10, [12, 13], []⟩ 11 = ⟨13, [], []⟩ := by
  unfold Gp.add; rw [if_neg (by decide), if_neg (by decide)]; show Gp.climb ⟨10, [12, 13, 11], []⟩ = _; unfold Gp.climb
  rw [climbF_step (by decide), show nxt 10 = 11 from rfl, show udel [12, 13, 11] 11 = [12, 13] by decide, climbF_step (by decide), show nxt 11 = 12 from rfl, show udel [12, 13] 12 = [13] by decide, climbF_step (by decide), show nxt 12 = 13 from rfl, show udel [13] 13 = [] by decide, climbF_stop (by decide)]
theorem aw5 : Gp.add ⟨13, [], []⟩ 12 = ⟨13, [], [12]⟩ := by unfold Gp.add; rw [if_pos (by decide), if_pos (by decide)]; rfl
theorem awb : blocksF 10 [12, 13] = [(2, 3)] := by
  unfold blocksF
  rw [show [12, 13].map (dst 10) = [2, 3] by decide, show msort [2, 3] = [2, 3] from List.mergeSort_of_pairwise (by decide)]
  decide
set_option maxRecDepth 100000 in
set_option maxHeartbeats 2000000 in
theorem awake_ev {H : AH} {R : HL} (hH0 : Hs H R) : Ev tabS spA (.fn (.func 9) [] []) [] H (fun r H' => r = .b true ∧ Hs H' R) := by
  refine Ev_C (F := x9) rfl ?_
  refine C_seq ?_
  refine C_region ?_
  refine O_p (.b false) (r_mv rfl) ?_
  refine O_nil ?_
  refine C_seq ?_
  refine C_region ?_
  refine O_call (Ev.mono (new_ev hH0).sp fun v1 H2 hq3 => ?_)
  obtain ⟨ga, S0, rfl, hG0, hHn⟩ := hq3
  rw [aw0] at hG0
  refine O_p (.p (some (ga, 0))) (r_mv rfl) ?_
  refine O_nil ?_
  refine C_seq ?_
  refine C_region ?_
  refine O_p (.p (some (ga, 0))) (r_mv rfl) ?_
  refine O_call (Ev.mono (add_ev (n := 12) hG0 hHn (by decide)).sp fun v7 H8 hq9 => ?_)
  obtain ⟨rfl, S4, hG5, hH6⟩ := hq9
  rw [aw1] at hG5
  rw [show Gp.told ⟨9, [], []⟩ 12 = 0 by decide]
  refine O_p (.i .i64 0) (r_mv rfl) ?_
  refine O_nil ?_
  refine C_seq ?_
  refine C_region ?_
  refine O_p (.p (some (ga, 0))) (r_mv rfl) ?_
  refine O_call (Ev.mono (add_ev (n := 13) hG5 hH6 (by decide)).sp fun v13 H14 hq15 => ?_)
  obtain ⟨rfl, S10, hG11, hH12⟩ := hq15
  rw [aw2] at hG11
  rw [show Gp.told ⟨9, [12], []⟩ 13 = 0 by decide]
  refine O_p (.i .i64 0) (r_mv rfl) ?_
  refine O_nil ?_
  refine C_seq ?_
  refine C_region ?_
  refine O_p (.p (some (ga, 0))) (r_mv rfl) ?_
  refine O_call (Ev.mono (add_ev (n := 10) hG11 hH12 (by decide)).sp fun v19 H20 hq21 => ?_)
  obtain ⟨rfl, S16, hG17, hH18⟩ := hq21
  rw [aw3] at hG17
  rw [show Gp.told ⟨9, [12, 13], []⟩ 10 = 0 by decide]
  refine O_p (.i .i64 0) (r_mv rfl) ?_
  refine O_nil ?_
  refine C_seq ?_
  refine C_region ?_
  refine O_p (.p (some (ga, 0))) (r_mv rfl) ?_
  refine O_call (Ev.mono (blocks_ev sort12 (by decide) (by decide) hG17 hH18) fun v22 H23 hq24 => ?_)
  obtain ⟨rc25, hr26, hH27⟩ := hq24
  rw [awb] at hr26
  refine O_p v22 (r_mv rfl) ?_
  refine O_nil ?_
  refine C_seq ?_
  refine C_region ?_
  refine O_p (.p (some (ga, 0))) (r_mv rfl) ?_
  refine O_p (.b true) (r_nilq_s rfl) ?_
  refine O_p (.b true) (r_mv rfl) ?_
  refine O_gk rfl ?_
  refine O_p (.i .i64 0) (r_mv rfl) ?_
  refine O_gk rfl ?_
  refine O_p (.b true) (r_bin rfl rfl rfl) ?_
  refine O_p (.b true) (r_pick_t rfl rfl) ?_
  refine O_p (.b true) (r_mv rfl) ?_
  refine O_gk rfl ?_
  refine O_p (.i .i64 0) (r_mv rfl) ?_
  refine O_gk rfl ?_
  refine O_p (.b true) (r_bin rfl rfl rfl) ?_
  refine O_p (.b true) (r_pick_t rfl rfl) ?_
  refine O_p (.b true) (r_mv rfl) ?_
  refine O_gk rfl ?_
  refine O_p (.i .i64 0) (r_mv rfl) ?_
  refine O_gk rfl ?_
  refine O_p (.b true) (r_bin rfl rfl rfl) ?_
  refine O_p (.b true) (r_pick_t rfl rfl) ?_
  refine O_p (.b true) (r_mv rfl) ?_
  refine O_gk rfl ?_
  refine O_p (.p (some (ga, 0))) (r_mv rfl) ?_
  refine O_gk rfl ?_
  refine O_call (Ev.mono (cum_ev hG17 hH27).sp fun v28 H29 hq30 => ?_)
  obtain ⟨rfl, hH31⟩ := hq30
  refine O_gk rfl ?_
  refine O_p (.b true) (r_eqq rfl rfl) ?_
  refine O_p (.b true) (r_pick_t rfl rfl) ?_
  refine O_p (.b true) (r_mv rfl) ?_
  refine O_gk rfl ?_
  refine O_p v22 (r_mv rfl) ?_
  refine O_gk rfl ?_
  refine O_p (.agg [(.i .u16 2), (.i .u16 3)]) (r_build rfl) ?_
  refine O_gk rfl ?_
  refine O_bslice (c := [(.i .u16 2), (.i .u16 3)]) rfl fun n32 H33 hN34 => ?_
  have hH35 := hH31.new hN34
  refine O_gk rfl ?_
  have hH36 := (hH35.top2)
  refine O_call (Ev.mono (blk_ev (la := ([(2, 3)] : List (Int × Int))) (lb := ([(2, 3)] : List (Int × Int))) (vb := (.sl (some (n32, 0)) 1 1 0)) (cb := [(.i .u16 2), (.i .u16 3)]) hr26 (Sq.full (b := n32) (n := 1) (g := 0) (.inl rfl) rfl) (by decide) (by decide) (by exact hH36)) fun v37 H38 hq39 => ?_)
  obtain ⟨rfl, hH40⟩ := hq39
  rw [show decide (([(2, 3)] : List (Int × Int)) = ([(2, 3)] : List (Int × Int))) = true from decide_eq_true rfl]
  refine O_p (.b true) (r_pick_t rfl rfl) ?_
  refine O_p (.b true) (r_mv rfl) ?_
  refine O_gk rfl ?_
  refine O_p (.p (some (ga, 0))) (r_mv rfl) ?_
  refine O_gk rfl ?_
  have hH44 := (hH40.top2)
  refine O_call (Ev.mono (add_ev (n := 11) hG17 hH44 (by decide)).sp fun v45 H46 hq47 => ?_)
  obtain ⟨rfl, S41, hG42, hH43⟩ := hq47
  rw [aw4] at hG42
  rw [show Gp.told ⟨10, [12, 13], []⟩ 11 = 0 by decide]
  refine O_gk rfl ?_
  refine O_p (.b true) (r_bin rfl rfl rfl) ?_
  refine O_p (.b true) (r_pick_t rfl rfl) ?_
  refine O_p (.b true) (r_mv rfl) ?_
  refine O_gk rfl ?_
  refine O_p (.p (some (ga, 0))) (r_mv rfl) ?_
  refine O_gk rfl ?_
  refine O_call (Ev.mono (cum_ev hG42 hH43).sp fun v48 H49 hq50 => ?_)
  obtain ⟨rfl, hH51⟩ := hq50
  refine O_gk rfl ?_
  refine O_p (.b true) (r_eqq rfl rfl) ?_
  refine O_p (.b true) (r_pick_t rfl rfl) ?_
  refine O_p (.b true) (r_mv rfl) ?_
  refine O_gk rfl ?_
  refine O_p (.p (some (ga, 0))) (r_mv rfl) ?_
  refine O_gk rfl ?_
  refine O_call (Ev.mono (add_ev (n := 12) hG42 hH51 (by decide)).sp fun v55 H56 hq57 => ?_)
  obtain ⟨rfl, S52, hG53, hH54⟩ := hq57
  rw [aw5] at hG53
  rw [show Gp.told ⟨13, [], []⟩ 12 = 1 by decide]
  refine O_gk rfl ?_
  refine O_p (.b true) (r_bin rfl rfl rfl) ?_
  refine O_p (.b true) (r_pick_t rfl rfl) ?_
  refine O_p (.b true) (r_mv rfl) ?_
  refine O_gk rfl ?_
  refine O_p (.p (some (ga, 0))) (r_mv rfl) ?_
  refine O_gk rfl ?_
  refine O_call (Ev.mono (dups_ev hG53 hH54).sp fun v58 H59 hq60 => ?_)
  obtain ⟨dc61, S62, hd63, hG64, hH65⟩ := hq60
  refine O_gk rfl ?_
  refine O_bslice (c := [(.i .u32 12)]) rfl fun n66 H67 hN68 => ?_
  have hH69 := hH65.new hN68
  refine O_gk rfl ?_
  have hH70 := (hH69.top2)
  refine O_call (Ev.mono (num_ev (la := ([12] : List Int)) (lb := ([12] : List Int)) (vb := (.sl (some (n66, 0)) 1 1 0)) (cb := [(.i .u32 12)]) hd63 (Sq.full (b := n66) (n := 1) (g := 0) (.inl rfl) rfl) (by decide) (by decide) (by exact hH70)) fun v71 H72 hq73 => ?_)
  obtain ⟨rfl, hH74⟩ := hq73
  rw [show decide (([12] : List Int) = ([12] : List Int)) = true from decide_eq_true rfl]
  refine O_p (.b true) (r_pick_t rfl rfl) ?_
  refine O_p (.b true) (r_mv rfl) ?_
  refine O_gk rfl ?_
  refine O_p (.p (some (ga, 0))) (r_mv rfl) ?_
  refine O_gk rfl ?_
  have hH75 := (hH74.top2)
  refine O_call (Ev.mono (len_ev hG64 hH75).sp fun v76 H77 hq78 => ?_)
  obtain ⟨rfl, hH79⟩ := hq78
  refine O_gk rfl ?_
  refine O_p (.b true) (r_bin rfl rfl rfl) ?_
  refine O_p (.b true) (r_pick_t rfl rfl) ?_
  refine O_p (.b true) (r_mv rfl) ?_
  refine O_nil ?_
  refine C_ret ?_
  have hH80 := (((((hH79.sub0).sub0).sub0).sub0).sub0)
  exact ⟨.inr rfl, _, resL_one (r_tmp (v := (.b true)) rfl), rfl, hH80⟩
end Go.Proofs.Ytjheedfobmlalaa.E
