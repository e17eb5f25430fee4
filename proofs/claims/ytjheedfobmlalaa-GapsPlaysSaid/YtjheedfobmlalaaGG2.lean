/- Blocks: in every order of the map. It bears no condition. -/
import Derived.Test.YtjheedfobmlalaaGG1
import Derived.Test.YtjheedfobmlalaaE50
namespace Go.Proofs.Ytjheedfobmlalaa.E

open Go.RowKit (Below)
set_option linter.unusedVariables false
set_option linter.unusedSimpArgs false
def cfst : Code → Code
  | .seq a _ => a
  | .block _ b => b
  | .loop b => b
  | .cond _ a _ => a
  | c => c
def csnd : Code → Code
  | .seq _ b => b
  | .cond _ _ b => b
  | c => c
def crops : Code → Array Oper
  | .region _ o _ => o
  | _ => #[]
noncomputable def fn15 : Func := (Try.prog.funcs[15]?).getD default
noncomputable def bd15 : Code := fn15.body.getD .skip
noncomputable def md15 : Code := csnd (csnd (csnd bd15))
noncomputable def lp15 : Code := cfst (cfst (csnd (cfst md15)))
noncomputable def r15_4 : Array Oper := crops (cfst (cfst md15))
noncomputable def r15_5 : Array Oper := crops (cfst lp15)
noncomputable def r15_6 : Array Oper := crops (cfst (cfst (csnd (csnd lp15))))
noncomputable def b15 : Code := csnd (cfst (csnd (csnd lp15)))
theorem fn15_get : Try.prog.funcs[15]? = some fn15 := by kernel_rfl
theorem fn15_body : fn15.body = some (.seq (cfst bd15) (.seq (cfst (csnd bd15)) (.seq (cfst (csnd (csnd bd15))) (.seq (.seq (.region 4 r15_4 false) (.block 0 (.loop (.seq (.region 5 r15_5 false) (.seq (.cond (.tmp 17) .skip (.exit 0)) (.block 1 (.seq (.region 6 r15_6 false) b15))))))) (csnd md15))))) := by kernel_rfl
theorem fn15_name : (fn15.name == "runtime.NumGoroutine") = false := by kernel_rfl
theorem fn15_ntmps : fn15.ntmps = 75 := by kernel_rfl
theorem fn15_res : cResL Try.prog fn15.results.toList = some [.t 2] := by kernel_rfl
theorem c15_0 : comp Try.prog 75 (cfst bd15) = some xr15_0 := by kernel_rfl
theorem c15_1 : comp Try.prog 75 (cfst (csnd bd15)) = some xr15_1 := by kernel_rfl
theorem c15_3 : comp Try.prog 75 (cfst (csnd (csnd bd15))) = some xr15_3 := by kernel_rfl
theorem c15_b : comp Try.prog 75 b15 = some xb15 := by kernel_rfl
theorem c15_s : comp Try.prog 75 (csnd md15) = some xs15 := by kernel_rfl
theorem c15_l4 : cOpers Try.prog 75 r15_4 (fun _ => []) [0, 1, 2, 3] = some l15_4 := by kernel_rfl
theorem c15_l6 : cOpers Try.prog 75 r15_6 (fun _ => []) [1, 2] = some l15 := by kernel_rfl
theorem z15_4 : List.range r15_4.size = [0, 1, 2, 3] ++ [4] := by kernel_rfl
theorem z15_6 : List.range r15_6.size = 0 :: [1, 2] := by kernel_rfl
theorem o15_4 : (r15_4[4]?).map (fun o => (o.dst, o.op, o.guard)) = some (some 15, .range 55 (.tmp 14), none) := by kernel_rfl
theorem o15_5 : r15_5.toList.map (fun o => (o.dst, o.op, o.guard)) = [(some 16, .next (.tmp 15) false, none), (some 17, .extract (.tmp 16) 0, none)] := by kernel_rfl
theorem o15_6 : (r15_6[0]?).map (fun o => (o.dst, o.op, o.guard)) = some (some 18, .entry (.tmp 15), none) := by kernel_rfl
theorem t55 : Try.prog.underlying 55 = some (.map 22 4) := by kernel_rfl
open Go.Sort (ltInt)
/-! ### Blocks -/
theorem msort_perm {a b : List Int} (h : a.Perm b) : msort a = msort b := by
  have tot : ∀ x y : Int, (!ltInt y x || !ltInt x y) = true := fun x y => by simp only [ltInt, Bool.or_eq_true, Bool.not_eq_true', decide_eq_false_iff_not]; omega
  have tr : ∀ x y z : Int, (!ltInt y x) = true → (!ltInt z y) = true → (!ltInt z x) = true := fun x y z => by simp only [ltInt, Bool.not_eq_true', decide_eq_false_iff_not]; omega
  refine List.Perm.eq_of_pairwise (le := fun x y => (!ltInt y x) = true) ?_ ?_ ?_ ((List.mergeSort_perm _ _).trans (h.trans (List.mergeSort_perm _ _).symm))
  · intro x y _ _ h1 h2
    simp only [ltInt, Bool.not_eq_true', decide_eq_false_iff_not] at h1 h2
    omega
  · exact List.pairwise_mergeSort tr tot _
  · exact List.pairwise_mergeSort tr tot _
def blocksF (c : Int) (l : List Int) : List (Int × Int) := (runsF (msort (l.map (dst c)))).take 64
def Out15 (rows : List (Int × Int)) (H : AH) (v : AV) (H' : AH) : Prop := ∃ C, H.next ≤ C ∧ ((rows = [] ∧ v = .sl none 0 0 0 ∧ H' = ⟨H.bl, C⟩) ∨ (rows ≠ [] ∧ v = .sl (some (C, 0)) rows.length rows.length 2 ∧ H' = ⟨(C, some (.cells (rw2 rows).flatten true)) :: H.bl, C + 1⟩))
def Post15 (H0 : AH) (rows : List (Int × Int)) (T : Tm) (H' : AH) : Prop := ∃ w wc, T.get 2 = w ∧ Sq 2 w wc (rw2 rows).flatten ∧ (rows = [] → w = .sl none 0 0 0) ∧ (∀ n b, H0.get n = some b → H'.get n = some b) ∧ ∀ p ∈ qseg w wc, H'.get p.1 = p.2 ∧ H0.next ≤ p.1
def PF15 (H0 : AH) (rows : List (Int × Int)) (K C : Nat) (T : Tm) (H : AH) : Prop := ∃ T' H', execC (exec tabS spS K) K xs15 T H = some (.ret, T', H') ∧ H'.next ≤ C ∧ Post15 H0 rows T' H'
def unseen (es : List (Int × Nat)) (seen : Array Nat) : List (Int × Nat) := es.filter fun p => decide (p.2 ∉ seen.toList)
/-- The first loop's state. -/
def Inv15 (H0 : AH) (a nm : Nat) (c : Int) (A : Option Blk) (es : List (Int × Nat)) (k : Nat) (seen : Array Nat) (T : Tm) (H : AH) : Prop := ∃ (vis : List (Int × Nat)) (hv : AV) (hc : List AV), vis.map (·.2) = seen.toList ∧ (∀ p ∈ vis, p ∈ es) ∧ (vis.map (·.2)).Nodup ∧ vis.length + (unseen es seen).length ≤ es.length ∧ (unseen es seen).length ≤ k ∧ T.get 0 = .p (some (a, 0)) ∧ T.get 3 = hv ∧ T.get 15 = .p (some (nm, 0)) ∧
  Sq 1 hv hc (lU (vis.map fun p => dst c p.1)) ∧ Hs H ([(a, A)] ++ (qseg hv hc ++ restL H0 [a]))
theorem unseen_push {es : List (Int × Nat)} {seen : Array Nat} {p : Int × Nat} (hp : p ∈ es) (hn : p.2 ∉ seen.toList) : (unseen es (seen.push p.2)).length < (unseen es seen).length := by
  have e : unseen es (seen.push p.2) = (unseen es seen).filter fun q => decide (q.2 ≠ p.2) := by
    unfold unseen
    rw [List.filter_filter]
    congr 1
    funext q
    simp only [Array.toList_push, List.mem_append, List.mem_singleton]
    by_cases h1 : q.2 ∈ seen.toList <;> by_cases h2 : q.2 = p.2 <;> simp [h1, h2]
  rw [e]
  refine List.length_filter_lt_length_iff_exists.2 ⟨p, List.mem_filter.2 ⟨hp, by simpa using hn⟩, by simp⟩
theorem vis_perm {es vis : List (Int × Nat)} {seen : Array Nat} (hb : (es.map (·.2)).Nodup) (h1 : vis.map (·.2) = seen.toList) (h2 : ∀ p ∈ vis, p ∈ es) (h3 : (vis.map (·.2)).Nodup) (h4 : ∀ p ∈ es, p.2 ∈ seen.toList) : vis.Perm es := by
  have nd : ∀ {l : List (Int × Nat)}, (l.map (·.2)).Nodup → l.Nodup := fun h => (List.pairwise_map.1 h).imp fun h e => h (by rw [e])
  have inj : ∀ {l : List (Int × Nat)}, (l.map (·.2)).Nodup → ∀ p ∈ l, ∀ q ∈ l, p.2 = q.2 → p = q := by
    intro l
    induction l with
    | nil => intro _ p hp; simp at hp
    | cons a l ih =>
      intro h p hp q hq e
      rw [List.map_cons, List.nodup_cons] at h
      rcases List.mem_cons.1 hp with e1 | hp1
      · rcases List.mem_cons.1 hq with e2 | hq1
        · rw [e1, e2]
        · exact absurd (List.mem_map.2 ⟨q, hq1, by rw [← e, e1]⟩) h.1
      · rcases List.mem_cons.1 hq with e2 | hq1
        · exact absurd (List.mem_map.2 ⟨p, hp1, by rw [e, e2]⟩) h.1
        · exact ih h.2 p hp1 q hq1 e
  refine (List.perm_ext_iff_of_nodup (nd h3) (nd hb)).2 fun p => ⟨h2 p, fun hp => ?_⟩
  have := h4 p hp
  rw [← h1] at this
  obtain ⟨q, hq, e⟩ := List.mem_map.1 this
  rw [← inj hb q (h2 q hq) p hp e]; exact hq

section
variable {H : AH} {a m : Nat} {c : Int} {x : AV} {l : List Int} {es : List (Int × Nat)} {cl N : Nat} {R : HL}
theorem inv15 (hS : SortOK N) (hN : N ≤ 1000000) (hl : l.length ≤ N) (hu : Um l es cl) (hma : m ≠ a) (hm : H.get m = some (.map (es.map uent) cl)) (hok : H.Ok) (hA : H.get a = some (.cells [.i .u32 c, .m (some m), x] true)) {nm : Nat} :
    ∀ k seen T H1, Inv15 H a nm c (some (.cells [.i .u32 c, .m (some m), x] true)) es k seen T H1 → ∃ es2, Basic 15 nm m cl cl T H1 es2 ∧ (k = 0 → ∀ y ∈ es2, y.2.2 ∈ seen.toList) ∧ ((∀ y ∈ es2, y.2.2 ∈ seen.toList) → Inf fun K C => PF15 H (blocksF c l) K C (mov 16 17 T) H1) ∧
      ∀ y ∈ es2, y.2.2 ∉ seen.toList → C tabS spS (.seq (.region l15) xb15) (mst 16 17 18 T y) H1 (fun e T' H' => e = .norm ∧ Inv15 H a nm c (some (.cells [.i .u32 c, .m (some m), x] true)) es (k - 1) (seen.push y.2.2) T' H') := by
  rintro k seen T H1 ⟨vis, hv, hc, v1, v2, v3, v5, v4, t0, t3, t15, hd, hH⟩
  have hmn : m < H.next := hok _ _ hm
  have hm1 : H1.get m = some (.map (es.map uent) cl) := (restL_get hH.unassoc hmn (by simpa using hma)).trans hm
  have hbn : (es.map uent).map (·.2.2) = es.map (·.2) := by rw [List.map_map]; rfl
  have hel : es.length = l.length := by rw [← hu.keys, List.length_map]
  refine ⟨es.map uent, ⟨t15, hm1, fun y hy => ?_, by rw [hbn]; exact hu.born⟩, fun hk y hy => ?_, fun hall => ?_, fun y hy hn => ?_⟩
  · obtain ⟨p, hp, rfl⟩ := List.mem_map.1 hy
    exact hu.old p hp
  · obtain ⟨p, hp, rfl⟩ := List.mem_map.1 hy
    have h0 : unseen es seen = [] := List.length_eq_zero_iff.1 (by omega)
    unfold unseen at h0
    rw [List.filter_eq_nil_iff] at h0
    have := h0 p hp
    show p.2 ∈ seen.toList
    simpa using this
  · have hp := vis_perm hu.born v1 v2 v3 fun p hp => hall (uent p) (List.mem_map.2 ⟨p, hp, rfl⟩)
    have hms : msort (vis.map fun p => dst c p.1) = msort (l.map (dst c)) := by
      refine msort_perm ?_
      have := hp.map fun p => dst c p.1
      rw [← hu.keys, List.map_map]
      exact this
    have h3 : (mov 16 17 T).get 3 = hv := by unfold mov; rw [Tm.get_set, Tm.get_set]; exact t3
    have W := s15_ev (T := mov 16 17 T) hS hN (by rw [List.length_map, hp.length_eq, hel]; exact hl) h3 hd hH.top1
    obtain ⟨k0, e, T', H', T2, g1, te, rfl, w, wc, f1, f2, f3, f4⟩ := W _ (fun _ => rfl)
    rw [hms] at f2 f3
    refine ⟨k0, H'.next, fun K hK C hC => ⟨T', H', execC_mono (exec_mono hK) hK _ g1, hC, w, wc, (te 2).trans f1, f2, fun h => ?_, fun n b hb => ?_, fun q hq => ⟨(f4.all q (List.mem_append.2 (.inl hq))).1, ?_⟩⟩⟩
    · refine f3 ?_
      unfold blocksF at h
      rw [List.take_eq_nil_iff] at h
      rcases h with h | h
      · cases h
      · exact h
    · by_cases e : n = a
      · subst e
        rw [(f4.all (n, _) (List.mem_append.2 (.inr (List.mem_append.2 (.inl (List.mem_singleton.2 rfl)))))).1, ← hb, hA]
      · rw [restL_get (Hs.unassoc f4) (hok n b hb) (by simpa using e)]; exact hb
    · refine Nat.le_of_not_lt fun hlt => ?_
      have nd := f4.nd
      rw [List.map_append, List.nodup_append] at nd
      refine nd.2.2 q.1 (List.mem_map.2 ⟨q, hq, rfl⟩) q.1 ?_ rfl
      rw [List.map_append]
      by_cases e : q.1 = a
      · exact List.mem_append.2 (.inl (by simp [e]))
      · refine List.mem_append.2 (.inr (List.mem_map.2 ⟨(q.1, H.get q.1), List.mem_map.2 ⟨q.1, List.mem_filter.2 ⟨by simpa using hlt, by simpa using e⟩, rfl⟩, rfl⟩))
  · obtain ⟨p, hp, rfl⟩ := List.mem_map.1 hy
    have hn' : p.2 ∉ seen.toList := hn
    have hup := unseen_push hp hn'
    have W := r15_ev (T := mst 16 17 18 T (uent p)) (it := .p (some (nm, 0))) (key := p.1) (by unfold mst; simp only [Tm.get_set]; exact t0) (by unfold mst; simp only [Tm.get_set]; exact t3) (by unfold mst; simp only [Tm.get_set]; exact t15) (by unfold mst; simp only [Tm.get_set]; rfl) hd (by rw [List.length_map]; omega) hH
    intro Tx te
    obtain ⟨k0, e, T', H', T2, g1, te2, g2, g3, g4, hv', hc', g5, g6, g7⟩ := W Tx te
    refine ⟨k0, e, T', H', T2, g1, te2, g2, vis ++ [p], hv', hc', ?_, ?_, ?_, ?_, ?_, g3, g5, g4, ?_, g7⟩
    · rw [List.map_append, v1, Array.toList_push]; rfl
    · intro q hq
      rcases List.mem_append.1 hq with hq | hq
      · exact v2 q hq
      · rw [List.mem_singleton] at hq; subst hq; exact hp
    · rw [List.map_append, List.nodup_append]
      refine ⟨v3, by simp, fun b hb d hd' e => ?_⟩
      rw [v1] at hb
      simp only [List.map_cons, List.map_nil, List.mem_singleton] at hd'
      subst hd' e
      exact hn' hb
    · rw [List.length_append, List.length_singleton]
      show _ + 1 + (unseen es (seen.push p.2)).length ≤ _
      omega
    · show (unseen es (seen.push p.2)).length ≤ _
      omega
    · rw [List.map_append]; exact g6
theorem inv15_te {H0 : AH} {a nm : Nat} {c : Int} {A : Option Blk} {es : List (Int × Nat)} : ∀ k seen T T' H, Inv15 H0 a nm c A es k seen T H → TE T' T → Inv15 H0 a nm c A es k seen T' H := by
  rintro k seen T T' H ⟨vis, hv, hc, v1, v2, v3, v5, v4, t0, t3, t15, hd, hH⟩ te
  exact ⟨vis, hv, hc, v1, v2, v3, v5, v4, (te 0).trans t0, (te 3).trans t3, (te 15).trans t15, hd, hH⟩
theorem callS (K : Nat) : CallOK Try.prog (exec tabS spS K) := exec_ok mixed tabS_ok spS_ok K
abbrev T15a (a : Nat) : Tm := [(0, .p (some (a, 0))), (2, .sl none 0 0 0)]
abbrev T15b (a : Nat) : Tm := [(0, .p (some (a, 0))), (2, .sl none 0 0 0), (9, .p (some (a, 0))), (10, .b false)]
abbrev T15c (a : Nat) : Tm := [(0, .p (some (a, 0))), (2, .sl none 0 0 0), (9, .p (some (a, 0))), (10, .b false), (3, .sl none 0 0 0)]
abbrev T15d (a m : Nat) : Tm := [(0, .p (some (a, 0))), (2, .sl none 0 0 0), (9, .p (some (a, 0))), (10, .b false), (3, .sl none 0 0 0), (11, .p (some (a, 0))), (12, .p (some (a, 0))), (13, .p (some (a, 1))), (14, .m (some m))]
theorem run15 {K : Nat} (hA : H.get a = some (.cells [.i .u32 c, .m (some m), x] true)) : runOps (exec tabS spS K) l15_4 (T15c a) H = some (T15d a m, H) := by
  simp [l15_4, runOps, XOper.wanted, XOp.run, XOp.look, XO.ev, Tm.get, Tm.put, Tm.set, hA]
theorem blocks_spk (hS : SortOK N) (hN : N ≤ 1000000) (hl : l.length ≤ N) {mb : Blk} (hb : Ub l mb) (hH : Hs H ([(a, some (.cells [.i .u32 c, .m (some m), x] true))] ++ ([(m, some mb)] ++ R))) :
    ∃ v H', Out15 (blocksF c l) H v H' ∧ SPk Try.prog 15 [.p (some (a, 0))] H v H' := by
  obtain ⟨es, cl, rfl, hu⟩ := hb
  have hok : H.Ok := hH.ok
  have hA : H.get a = some (.cells [.i .u32 c, .m (some m), x] true) := hH.get
  have hm : H.get m = some (.map (es.map uent) cl) := hH.get1
  have hma : m ≠ a := fun e => by subst e; rw [hm] at hA; cases hA
  have hel : es.length = l.length := by rw [← hu.keys, List.length_map]
  have hH1 : Hs { H with next := H.next + 1 } ([(a, some (.cells [.i .u32 c, .m (some m), x] true))] ++ ([] ++ restL H [a])) := by
    have h1 : Hs H ([(a, some (.cells [.i .u32 c, .m (some m), x] true))] ++ restL H [a]) := restL_hs (L := [(a, some (.cells [.i .u32 c, .m (some m), x] true))]) (Hs.sub (A := [(m, some (.map (es.map uent) cl))] ++ R) (by have := hH.perm List.perm_append_comm; exact this))
    exact h1.keep (H' := { H with next := H.next + 1 }) (Nat.le_succ _) (fun q _ => rfl) fun q b hb => Nat.lt_succ_of_lt (hok q b hb)
  have hI : Inv15 H a H.next c (some (.cells [.i .u32 c, .m (some m), x] true)) es es.length #[] ((T15d a m).set 15 (.p (some (H.next, 0)))) { H with next := H.next + 1 } := by
    refine ⟨[], .sl none 0 0 0, [], rfl, by simp, by simp, ?_, ?_, ?_, ?_, ?_, Sq.nil, hH1⟩
    · unfold unseen; simpa using List.length_filter_le _ _
    · unfold unseen; exact List.length_filter_le _ _
    · rfl
    · rfl
    · rfl
  obtain ⟨K, C, hF⟩ := fin_inf (tab := tabS) (sp := spS) (l2 := l15) (xb := xb15) (tI := 15) (tN := 16) (tB := 17) (tE := 18) (nm := H.next) (m := m) (since := cl) (cl := cl) (PF := PF15 H (blocksF c l)) inv15_te (inv15 hS hN hl hu hma hm hok hA) es.length #[] _ _ hI
  have hF0 := hF (max K 1) (Nat.le_max_left ..) (max C H.next) (Nat.le_max_left ..)
  obtain ⟨K1, hK1, hK1'⟩ : ∃ K1, K1 = max K 1 ∧ 1 ≤ K1 := ⟨_, rfl, Nat.le_max_right ..⟩
  obtain ⟨C1, hC1, hC1'⟩ : ∃ C1, C1 = max C H.next ∧ H.next ≤ C1 := ⟨_, rfl, Nat.le_max_right ..⟩
  rw [← hK1, ← hC1] at hF0
  have main : ∀ B w0 ρ w (av : Array Value) (n : Nat), Rel Try.prog B w0 ρ H w → VRL ρ [.p (some (a, 0))] av.toList → ∀ Q : Exit → Act → World → Prop, (∀ e T' H' ρ' w' tmps' ds', (e = Exit.normal ∨ e = .ret) → (H'.next ≤ C1 ∧ Post15 H (blocksF c l) T' H') → Rel Try.prog B w0 ρ' H' w' → TR ρ' fn15.ntmps T' tmps' → MK w.heap.size ρ' w' ds' → St ρ H w ρ' H' w' → Q e ⟨tmps', ds'⟩ w') →
      Code.wpIn Fence.wide n Try.prog (.seq (cfst bd15) (.seq (cfst (csnd bd15)) (.seq (cfst (csnd (csnd bd15))) (.seq (.seq (.region 4 r15_4 false) (.block 0 (.loop (.seq (.region 5 r15_5 false) (.seq (.cond (.tmp 17) .skip (.exit 0)) (.block 1 (.seq (.region 6 r15_6 false) b15))))))) (csnd md15))))) Q ⟨av ++ Array.replicate (fn15.ntmps - av.size) undef, []⟩ w := by
    intro B w0 ρ w av n hR hv Q hQ
    have hT0 := args_ok hv fn15.ntmps
    rw [fn15_ntmps] at hT0 hQ ⊢
    have hcall := callS K1
    obtain ⟨K2, rfl⟩ : ∃ K2, K1 = K2 + 1 := ⟨K1 - 1, by omega⟩
    refine wpIn_seq (execC_ok (ro := none) hcall mixed w.heap.size 0 (cfst bd15) xr15_0 c15_0 (.inl rfl) _ (T15a a) _ H .norm _ _ _ _ _ _ hR hT0 (MK.nil _ _ _) (Nat.le_refl _) rfl _ fun ρ1 w1 t1 d1 a1 a2 a3 a4 => ?_)
    show Code.wpIn (Fw none) n Try.prog _ _ _ _
    refine wpIn_seq (execC_ok (ro := none) hcall mixed w.heap.size 0 (cfst (csnd bd15)) xr15_1 c15_1 (.inl rfl) _ (T15b a) _ H .norm _ _ _ _ _ _ a1 a2 a4 a3.size rfl _ fun ρ2 w2 t2 d2 b1 b2 b3 b4 => ?_)
    show Code.wpIn (Fw none) n Try.prog _ _ _ _
    refine wpIn_seq (execC_ok (ro := none) hcall mixed w.heap.size 0 (cfst (csnd (csnd bd15))) xr15_3 c15_3 (.inl rfl) _ (T15c a) _ H .norm _ _ _ _ _ _ b1 b2 b4 (a3.trans b3).size rfl _ fun ρ3 w3 t3 d3 e1 e2 e3 e4 => ?_)
    have s3 := (a3.trans b3).trans e3
    show Code.wpIn (Fw none) n Try.prog _ _ _ _
    refine wpIn_seq (range_loop (ro := none) (tab := tabS) (sp := spS) (T1 := T15d a m) (N := 75) hcall mixed (.inl rfl) z15_4 c15_l4 o15_4 t55 o15_5 o15_6 z15_6 c15_l6 c15_b (by decide) (by decide) (run15 hA) rfl hm hF0 e1 e2 e4 s3.size fun T' H' ρ4 w4 t4 d4 hP f1 f2 f3 f4 => ?_)
    obtain ⟨T2, H2, g1, g2, g3⟩ := hP
    show Code.wpIn (Fw none) n Try.prog _ _ _ _
    refine execC_ok (ro := none) hcall mixed w.heap.size (K2 + 1) (csnd md15) xs15 c15_s (.inl rfl) _ _ _ _ _ _ _ _ _ _ _ f1 f2 f3 (s3.trans f4).size g1 _ fun ρ5 w5 t5 d5 k1 k2 k3 k4 => ?_
    exact hQ .ret T2 H2 ρ5 w5 t5 d5 (.inr rfl) ⟨g2, g3⟩ k1 k2 k4 ((s3.trans f4).trans k3)
  by_cases hr : blocksF c l = []
  · refine ⟨_, _, ⟨C1, hC1', .inl ⟨hr, rfl, rfl⟩⟩, spk_of fn15_get fn15_body fn15_name fn15_res (PF := fun T' H' => H'.next ≤ C1 ∧ Post15 H (blocksF c l) T' H') main ?_⟩
    rintro T' H' ⟨hn, w, wc, p1, p2, p3, p4, p5⟩
    refine ⟨[w], by simp only [resL, XRes.get, p1], fun B w0 ρ w9 ρ' w' q1 q2 q3 => ?_⟩
    obtain ⟨r1, r2⟩ := Rel.none (H3 := ⟨H.bl, C1⟩) q2 q3 (fun n b h => p4 n b h) hn (fun n h => h.2)
    exact ⟨ρ', r1, r2, fun cv h => by rw [p3 hr] at h; exact h⟩
  · refine ⟨_, _, ⟨C1, hC1', .inr ⟨hr, rfl, rfl⟩⟩, spk_of fn15_get fn15_body fn15_name fn15_res (PF := fun T' H' => H'.next ≤ C1 ∧ Post15 H (blocksF c l) T' H') main ?_⟩
    rintro T' H' ⟨hn, w, wc, p1, p2, p3, p4, p5⟩
    refine ⟨[w], by simp only [resL, XRes.get, p1], fun B w0 ρ w9 ρ' w' q1 q2 q3 => ?_⟩
    have hpos : 0 < (blocksF c l).length := by cases h : blocksF c l with | nil => exact absurd h hr | cons _ _ => simp
    obtain ⟨b, o, cap, g, rfl, k1, k2, k3, k4⟩ := p2.open (rw2_len _) (by decide) hpos
    obtain ⟨m1, m2⟩ := p5 (b, some (.cells wc true)) (by rw [qseg_sl]; exact List.mem_singleton.2 rfl)
    exact Rel.res q2 q3 q1.dom hok p4 m2 hn m1 k2 k4 k1 hpos (by decide)
end


set_option linter.unusedVariables false
set_option linter.unusedSimpArgs false
theorem r_udelx {H : AH} {T : Tm} {cf : CallF} {x y : XO} {l : List Int} {es : List (Int × Nat)} {cl r : Nat} {k : Int} {R : HL} (hH : Hs H ([(r, some (.map (es.map uent) cl))] ++ R)) (hu : Um l es cl) (hx : x.ev T = .m (some r)) (hk : y.ev T = .i .u32 k) : ∃ u H', (XOp.del 0 x y).run cf T H = some (u, H') ∧ Hs H' ([(r, some (.map ((es.filter fun p => decide (p.1 ≠ k)).map uent) cl))] ++ R) := by
  obtain ⟨h1, h2, h3, h4⟩ := hu
  obtain ⟨g1, g2⟩ := ufind (H := H) (k := k) es 0
  by_cases hin : k ∈ es.map (·.1)
  · obtain ⟨j, e, p, hp, he⟩ := g1 hin
    refine ⟨und, H.set r (.map ((es.map uent).eraseIdx j) cl), ?_, ?_⟩
    · simp only [XOp.run, XOp.turn, hx, hk, keyOk, hH.get, Bool.true_eq_false, if_false, e, Nat.add_zero]
    · rw [← erase_filter (by rw [h1]; exact h4) hp he, map_erase]
      exact set_hs hH
  · refine ⟨und, H, ?_, ?_⟩
    · simp only [XOp.run, XOp.turn, hx, hk, keyOk, hH.get, Bool.true_eq_false, if_false, g2 hin]
    · have : es.filter (fun p => decide (p.1 ≠ k)) = es := List.filter_eq_self.2 fun p hp => by rw [decide_eq_true_eq]; rintro rfl; exact hin (List.mem_map.2 ⟨p, hp, rfl⟩)
      rw [this]; exact hH
def l34_0 : List XOper := [⟨(some 6), (.mv (.t 0)), none, 0, []⟩]
def l34 : List XOper := [⟨(some 11), (.ext (.t 10) 0), none, 1, []⟩, ⟨(some 12), (.ext (.t 10) 1), none, 2, []⟩, ⟨(some 4), (.mv (.t 11)), none, 3, []⟩, ⟨(some 5), (.mv (.t 12)), none, 4, []⟩]
def xb34 : XC := (.seq (.region [⟨(some 13), (.mv (.t 1)), none, 0, []⟩, ⟨(some 14), (.mv (.t 4)), none, 1, []⟩, ⟨(some 15), (.mv (.t 5)), none, 2, []⟩, ⟨(some 16), (.call (.t 13) [(.t 14), (.t 15)]), none, 3, []⟩]) (.cond (.t 16) (.region [⟨(some 17), (.mv (.t 0)), none, 0, []⟩, ⟨(some 18), (.mv (.t 4)), none, 1, []⟩, ⟨none, (.del 0 (.t 17) (.t 18)), none, 2, []⟩]) .skip))
theorem r34_ev {T : Tm} {H : AH} {R : HL} {bx a m cl : Nat} {c key : Int} {x1 x2 it : AV} {l : List Int} {es : List (Int × Nat)} (h0 : T.get 0 = .m (some m)) (h1 : T.get 1 = (.fn (.func 35) [] [.p (some (bx, 0))])) (h7 : T.get 7 = it) (h10 : T.get 10 = .tup [.i .u32 key, .b true]) (hu : Um l es cl) (hH0 : Hs H ([(bx, some (.cells [.p (some (a, 0))] true))] ++ ([(a, some (.cells [.i .u32 c, x1, x2] true))] ++ ([(m, some (.map (es.map uent) cl))] ++ R)))) :
    C tabS spS (.seq (.region l34) xb34) T H (fun e T' H' => e = .norm ∧ T'.get 0 = .m (some m) ∧ T'.get 1 = (.fn (.func 35) [] [.p (some (bx, 0))]) ∧ T'.get 7 = it ∧ Hs H' ([(bx, some (.cells [.p (some (a, 0))] true))] ++ ([(a, some (.cells [.i .u32 c, x1, x2] true))] ++ ([(m, some (.map ((if blw c key = true then es.filter (fun p => decide (p.1 ≠ key)) else es).map uent) cl))] ++ R)))) := by
  refine C_seq ?_
  refine C_region ?_
  refine O_p (.i .u32 key) (r_ext h10 rfl) ?_
  refine O_p (.b true) (r_ext h10 rfl) ?_
  refine O_p (.i .u32 key) (r_mv rfl) ?_
  refine O_p (.b true) (r_mv rfl) ?_
  refine O_nil ?_
  refine C_seq ?_
  refine C_region ?_
  refine O_p (.fn (.func 35) [] [.p (some (bx, 0))]) (r_mv h1) ?_
  refine O_p (.i .u32 key) (r_mv rfl) ?_
  refine O_p (.b true) (r_mv rfl) ?_
  have hH1 := ((hH0.top1).top1)
  refine O_call (Ev.mono (clos_ev (n := key) hH1) fun v2 H3 hq4 => ?_)
  obtain ⟨rfl, hH5⟩ := hq4
  refine O_nil ?_
  refine C_cond (x := (blw c key)) rfl (fun hc6 => ?_) (fun hc6 => ?_)
  ·
    have hb : blw c key = true := by rw [hc6]
    refine C_region ?_
    refine O_p (.m (some m)) (r_mv h0) ?_
    refine O_p (.i .u32 key) (r_mv rfl) ?_
    refine O_nh (by exact r_udelx (k := key) hH5.top2 hu rfl rfl) fun H7 hH9 => ?_
    refine O_nil ?_
    have hH10 := ((hH9.top2).top2)
    exact ⟨rfl, h0, h1, h7, by rw [if_pos hb]; exact hH10⟩
  ·
    have hb : ¬ blw c key = true := by rw [hc6]; decide
    refine C_skip ?_
    have hH11 := (((hH5.top2).top2).top2)
    exact ⟨rfl, h0, h1, h7, by rw [if_neg hb]; exact hH11⟩


open Go.RowKit (Below)
set_option linter.unusedVariables false
set_option linter.unusedSimpArgs false
noncomputable def fn34 : Func := (Try.prog.funcs[34]?).getD default
noncomputable def bd34 : Code := fn34.body.getD .skip
noncomputable def lp34 : Code := cfst (cfst (csnd bd34))
noncomputable def r34_0 : Array Oper := crops (cfst bd34)
noncomputable def r34_1 : Array Oper := crops (cfst lp34)
noncomputable def r34_2 : Array Oper := crops (cfst (cfst (csnd (csnd lp34))))
noncomputable def b34 : Code := csnd (cfst (csnd (csnd lp34)))
theorem fn34_get : Try.prog.funcs[34]? = some fn34 := by kernel_rfl
theorem fn34_body : fn34.body = some (.seq (.region 0 r34_0 false) (.block 0 (.loop (.seq (.region 1 r34_1 false) (.seq (.cond (.tmp 9) .skip (.exit 0)) (.block 1 (.seq (.region 2 r34_2 false) b34))))))) := by kernel_rfl
theorem fn34_name : (fn34.name == "runtime.NumGoroutine") = false := by kernel_rfl
theorem fn34_ntmps : fn34.ntmps = 19 := by kernel_rfl
theorem fn34_res : cResL Try.prog fn34.results.toList = some [] := by kernel_rfl
theorem c34_b : comp Try.prog 19 b34 = some xb34 := by kernel_rfl
theorem c34_l0 : cOpers Try.prog 19 r34_0 (fun _ => []) [0] = some l34_0 := by kernel_rfl
theorem c34_l2 : cOpers Try.prog 19 r34_2 (fun _ => []) [1, 2, 3, 4] = some l34 := by kernel_rfl
theorem z34_0 : List.range r34_0.size = [0] ++ [1] := by kernel_rfl
theorem z34_2 : List.range r34_2.size = 0 :: [1, 2, 3, 4] := by kernel_rfl
theorem o34_0 : (r34_0[1]?).map (fun o => (o.dst, o.op, o.guard)) = some (some 7, .range 55 (.tmp 6), none) := by kernel_rfl
theorem o34_1 : r34_1.toList.map (fun o => (o.dst, o.op, o.guard)) = [(some 8, .next (.tmp 7) false, none), (some 9, .extract (.tmp 8) 0, none)] := by kernel_rfl
theorem o34_2 : (r34_2[0]?).map (fun o => (o.dst, o.op, o.guard)) = some (some 10, .entry (.tmp 7), none) := by kernel_rfl

abbrev clv (bx : Nat) : AV := .fn (.func 35) [] [.p (some (bx, 0))]
abbrev SG34 (bx a m : Nat) (c : Int) (x1 x2 : AV) (es : List (Int × Nat)) (cl : Nat) (R : HL) : HL := [(bx, some (.cells [.p (some (a, 0))] true))] ++ ([(a, some (.cells [.i .u32 c, x1, x2] true))] ++ ([(m, some (.map (es.map uent) cl))] ++ R))
def kept (c : Int) (es : List (Int × Nat)) (seen : Array Nat) : List (Int × Nat) := es.filter fun p => !(decide (p.2 ∈ seen.toList) && blw c p.1)
def Inv34 (H0 : AH) (bx a m nm : Nat) (c : Int) (x1 x2 : AV) (es : List (Int × Nat)) (cl : Nat) (k : Nat) (seen : Array Nat) (T : Tm) (H : AH) : Prop :=
  (unseen es seen).length ≤ k ∧ T.get 0 = .m (some m) ∧ T.get 1 = clv bx ∧ T.get 7 = .p (some (nm, 0)) ∧ Hs H (SG34 bx a m c x1 x2 (kept c es seen) cl (restL H0 [bx, a, m]))
def H34 (H : AH) (m : Nat) (c : Int) (es : List (Int × Nat)) (cl C : Nat) : AH := ⟨(H.set m (.map ((es.filter fun p => !blw c p.1).map uent) cl)).bl, C⟩
def PF34 (H0 : AH) (m : Nat) (c : Int) (es : List (Int × Nat)) (cl : Nat) (K C : Nat) (T : Tm) (H : AH) : Prop := H.next ≤ C ∧ ∀ n b, (H34 H0 m c es cl C).get n = some b → H.get n = some b
theorem um_inj {l : List Int} {es : List (Int × Nat)} {cl : Nat} (h : Um l es cl) {p q : Int × Nat} (hp : p ∈ es) (hq : q ∈ es) : (p.2 = q.2 → p = q) ∧ (p.1 = q.1 → p = q) := by
  have inj : ∀ {β : Type} (f : Int × Nat → β) {l : List (Int × Nat)}, (l.map f).Nodup → ∀ p ∈ l, ∀ q ∈ l, f p = f q → p = q := by
    intro β f l
    induction l with
    | nil => intro _ p hp; simp at hp
    | cons a l ih =>
      intro h p hp q hq e
      rw [List.map_cons, List.nodup_cons] at h
      rcases List.mem_cons.1 hp with e1 | hp1
      · rcases List.mem_cons.1 hq with e2 | hq1
        · rw [e1, e2]
        · exact absurd (List.mem_map.2 ⟨q, hq1, by rw [← e, e1]⟩) h.1
      · rcases List.mem_cons.1 hq with e2 | hq1
        · exact absurd (List.mem_map.2 ⟨p, hp1, by rw [e, e2]⟩) h.1
        · exact ih h.2 p hp1 q hq1 e
  exact ⟨inj (·.2) h.born p hp q hq, inj (·.1) (by rw [h.keys]; exact h.nd) p hp q hq⟩
theorem kept_push {l : List Int} {es : List (Int × Nat)} {cl : Nat} (h : Um l es cl) {c : Int} {seen : Array Nat} {p : Int × Nat} (hp : p ∈ es) : kept c es (seen.push p.2) = if blw c p.1 = true then (kept c es seen).filter (fun q => decide (q.1 ≠ p.1)) else kept c es seen := by
  unfold kept
  split
  · rename_i hb
    rw [List.filter_filter]
    refine List.filter_congr fun q hq => ?_
    obtain ⟨i1, i2⟩ := um_inj h hq hp
    simp only [Array.toList_push, List.mem_append, List.mem_singleton]
    by_cases e : q = p
    · subst e; simp [hb]
    · have n1 : q.2 ≠ p.2 := fun e2 => e (i1 e2)
      have n2 : q.1 ≠ p.1 := fun e2 => e (i2 e2)
      simp [n1, n2]
  · rename_i hb
    refine List.filter_congr fun q hq => ?_
    obtain ⟨i1, i2⟩ := um_inj h hq hp
    simp only [Array.toList_push, List.mem_append, List.mem_singleton]
    by_cases e : q = p
    · subst e; simp [hb]
    · have n1 : q.2 ≠ p.2 := fun e2 => e (i1 e2)
      simp [n1]
section
variable {H : AH} {bx a m nm cl : Nat} {c : Int} {x1 x2 : AV} {l : List Int} {es : List (Int × Nat)} {R : HL}
theorem um_kept (h : Um l es cl) (seen : Array Nat) : ∃ l2, Um l2 (kept c es seen) cl := by
  refine ⟨(kept c es seen).map (·.1), rfl, fun p hp => h.old p (List.mem_filter.1 hp).1, h.born.sublist (List.filter_sublist.map _), ?_⟩
  have : (es.map (·.1)).Nodup := by rw [h.keys]; exact h.nd
  exact this.sublist (List.filter_sublist.map _)
theorem inv34 (hu : Um l es cl) (hok : H.Ok) (hm : H.get m = some (.map (es.map uent) cl)) (hb : H.get bx = some (.cells [.p (some (a, 0))] true)) (ha : H.get a = some (.cells [.i .u32 c, x1, x2] true)) :
    ∀ k seen T H1, Inv34 H bx a m nm c x1 x2 es cl k seen T H1 → ∃ es2, Basic 7 nm m cl cl T H1 es2 ∧ (k = 0 → ∀ y ∈ es2, y.2.2 ∈ seen.toList) ∧ ((∀ y ∈ es2, y.2.2 ∈ seen.toList) → Inf fun K C => PF34 H m c es cl K C (mov 8 9 T) H1) ∧
      ∀ y ∈ es2, y.2.2 ∉ seen.toList → C tabS spS (.seq (.region l34) xb34) (mst 8 9 10 T y) H1 (fun e T' H' => e = .norm ∧ Inv34 H bx a m nm c x1 x2 es cl (k - 1) (seen.push y.2.2) T' H') := by
  rintro k seen T H1 ⟨v4, t0, t1, t7, hH⟩
  obtain ⟨l2, hu2⟩ := um_kept (c := c) hu seen
  have hm1 : H1.get m = some (.map ((kept c es seen).map uent) cl) := hH.get2
  have hbn : ((kept c es seen).map uent).map (·.2.2) = (kept c es seen).map (·.2) := by rw [List.map_map]; rfl
  refine ⟨(kept c es seen).map uent, ⟨t7, hm1, fun y hy => ?_, by rw [hbn]; exact hu2.born⟩, fun hk y hy => ?_, fun hall => ?_, fun y hy hn => ?_⟩
  · obtain ⟨p, hp, rfl⟩ := List.mem_map.1 hy
    exact hu2.old p hp
  · obtain ⟨p, hp, rfl⟩ := List.mem_map.1 hy
    have h0 : unseen es seen = [] := List.length_eq_zero_iff.1 (by omega)
    unfold unseen at h0
    rw [List.filter_eq_nil_iff] at h0
    have := h0 p (List.mem_filter.1 hp).1
    show p.2 ∈ seen.toList
    simpa using this
  · have hfe : kept c es seen = es.filter fun p => !blw c p.1 := by
      unfold kept
      refine List.filter_congr fun p hp => ?_
      by_cases h1 : p.2 ∈ seen.toList
      · simp [h1]
      · have : uent p ∈ (kept c es seen).map uent := List.mem_map.2 ⟨p, List.mem_filter.2 ⟨hp, by simp [h1]⟩, rfl⟩
        exact absurd (hall _ this) h1
    rw [hfe] at hm1
    refine ⟨0, H1.next, fun K hK C hC => ⟨hC, fun n b hn => ?_⟩⟩
    have hg : (H34 H m c es cl C).get n = (H.set m (.map ((es.filter fun p => !blw c p.1).map uent) cl)).get n := rfl
    rw [hg, AH.get_set] at hn
    split at hn
    · rename_i e; subst e; rw [hm1]; exact hn
    · rename_i hne
      by_cases e1 : n = bx
      · subst e1; rw [hb] at hn; rw [← hn]; exact hH.get
      · by_cases e2 : n = a
        · subst e2; rw [ha] at hn; rw [← hn]; exact hH.get1
        · rw [restL_get (L := [(bx, some (.cells [.p (some (a, 0))] true)), (a, some (.cells [.i .u32 c, x1, x2] true)), (m, some (.map ((kept c es seen).map uent) cl))]) hH (hok n b hn) (by simp [e1, e2, Ne.symm hne])]; exact hn
  · obtain ⟨p, hp, rfl⟩ := List.mem_map.1 hy
    have hpe := (List.mem_filter.1 hp).1
    have hup := unseen_push hpe (show p.2 ∉ seen.toList from hn)
    have W := r34_ev (T := mst 8 9 10 T (uent p)) (it := .p (some (nm, 0))) (key := p.1) (by unfold mst; simp only [Tm.get_set]; exact t0) (by unfold mst; simp only [Tm.get_set]; exact t1) (by unfold mst; simp only [Tm.get_set]; exact t7) (by unfold mst; simp only [Tm.get_set]; rfl) hu2 hH
    intro Tx te
    obtain ⟨k0, e, T', H', T2, g1, te2, g2, g3, g4, g5, g6⟩ := W Tx te
    refine ⟨k0, e, T', H', T2, g1, te2, g2, ?_, g3, g4, g5, ?_⟩
    · show (unseen es (seen.push p.2)).length ≤ _
      omega
    · show Hs H' (SG34 bx a m c x1 x2 (kept c es (seen.push p.2)) cl (restL H [bx, a, m]))
      rw [kept_push hu hpe]; exact g6
theorem inv34_te : ∀ k seen T T' H1, Inv34 H bx a m nm c x1 x2 es cl k seen T H1 → TE T' T → Inv34 H bx a m nm c x1 x2 es cl k seen T' H1 := by
  rintro k seen T T' H1 ⟨v4, t0, t1, t7, hH⟩ te
  exact ⟨v4, (te 0).trans t0, (te 1).trans t1, (te 7).trans t7, hH⟩
abbrev T34 (m bx : Nat) : Tm := [(0, .m (some m)), (1, clv bx), (6, .m (some m))]
theorem del_spk (hu : Um l es cl) (hH : Hs H (SG34 bx a m c x1 x2 es cl R)) : ∃ v H', (∃ C, H.next ≤ C ∧ v = .tup [] ∧ H' = H34 H m c es cl C) ∧ SPk Try.prog 34 [.m (some m), clv bx] H v H' := by
  have hok : H.Ok := hH.ok
  have hb : H.get bx = some (.cells [.p (some (a, 0))] true) := hH.get
  have ha : H.get a = some (.cells [.i .u32 c, x1, x2] true) := hH.get1
  have hm : H.get m = some (.map (es.map uent) cl) := hH.get2
  have hk0 : kept c es #[] = es := List.filter_eq_self.2 fun p _ => by simp
  have hH1 : Hs { H with next := H.next + 1 } (SG34 bx a m c x1 x2 (kept c es #[]) cl (restL H [bx, a, m])) := by
    rw [hk0]
    have h0 : Hs H [(bx, some (.cells [.p (some (a, 0))] true)), (a, some (.cells [.i .u32 c, x1, x2] true)), (m, some (.map (es.map uent) cl))] := Hs.sub (A := R) (hH.perm (by
      show List.Perm ([(bx, some (.cells [.p (some (a, 0))] true)), (a, some (.cells [.i .u32 c, x1, x2] true)), (m, some (.map (es.map uent) cl))] ++ R) _
      exact List.perm_append_comm))
    have h1 := restL_hs h0
    exact h1.keep (H' := { H with next := H.next + 1 }) (Nat.le_succ _) (fun q _ => rfl) fun q b hb => Nat.lt_succ_of_lt (hok q b hb)
  have hI : Inv34 H bx a m H.next c x1 x2 es cl es.length #[] ((T34 m bx).set 7 (.p (some (H.next, 0)))) { H with next := H.next + 1 } := ⟨by unfold unseen; exact List.length_filter_le _ _, rfl, rfl, rfl, hH1⟩
  obtain ⟨K, C, hF⟩ := fin_inf (tab := tabS) (sp := spS) (l2 := l34) (xb := xb34) (tI := 7) (tN := 8) (tB := 9) (tE := 10) (nm := H.next) (m := m) (since := cl) (cl := cl) (PF := PF34 H m c es cl) inv34_te (inv34 hu hok hm hb ha) es.length #[] _ _ hI
  have hF0 := hF K (Nat.le_refl _) (max C H.next) (Nat.le_max_left ..)
  obtain ⟨C1, hC1, hC1'⟩ : ∃ C1, C1 = max C H.next ∧ H.next ≤ C1 := ⟨_, rfl, Nat.le_max_right ..⟩
  rw [← hC1] at hF0
  refine ⟨_, _, ⟨C1, hC1', rfl, rfl⟩, spk_of fn34_get fn34_body fn34_name fn34_res (PF := PF34 H m c es cl K C1) ?_ ?_⟩
  · intro B w0 ρ w av n hR hv Q hQ
    have hT0 := args_ok hv fn34.ntmps
    rw [fn34_ntmps] at hT0 hQ ⊢
    exact range_loop (ro := none) (tab := tabS) (sp := spS) (T1 := T34 m bx) (N := 19) (callS K) mixed (.inl rfl) z34_0 c34_l0 o34_0 t55 o34_1 o34_2 z34_2 c34_l2 c34_b (by decide) (by decide) rfl rfl hm hF0 hR hT0 (MK.nil _ _ _) (Nat.le_refl _) fun T' H' ρ4 w4 t4 d4 hP f1 f2 f3 f4 => hQ .normal T' H' ρ4 w4 t4 d4 (.inl rfl) hP f1 f2 f3 f4
  · rintro T' H' ⟨hn, hk⟩
    refine ⟨[], rfl, fun B w0 ρ w9 ρ' w' q1 q2 q3 => ?_⟩
    obtain ⟨r1, r2⟩ := Rel.none (H3 := H34 H m c es cl C1) q2 q3 hk hn (fun n h => by
      show (H.set m _).get n = none
      rw [AH.get_set, if_neg (fun e => by subst e; rw [h.2] at hm; cases hm)]; exact h.2)
    exact ⟨ρ', r1, r2, fun cv h => h⟩
theorem del_hs {H' : AH} {C : Nat} (hC : H.next ≤ C) (hH : Hs H (SG34 bx a m c x1 x2 es cl R)) (e : H' = H34 H m c es cl C) : Hs H' (SG34 bx a m c x1 x2 (es.filter fun p => !blw c p.1) cl R) := by
  subst e
  have h1 : Hs ⟨(H.set m (.map ((es.filter fun p => !blw c p.1).map uent) cl)).bl, H.next⟩ (SG34 bx a m c x1 x2 (es.filter fun p => !blw c p.1) cl R) := Hs.wr2 hH ⟨rfl, AH.set_same _ _ _, fun n h => AH.set_other _ _ (Ne.symm h)⟩
  exact h1.keep hC (fun q _ => rfl) fun q b hb => Nat.lt_of_lt_of_le (h1.ok q b hb) hC
end


set_option linter.unusedVariables false
set_option linter.unusedSimpArgs false
open Go.Sort (ltInt)
theorem take_step {α : Type} {a b : List α} {d : α} {i : Nat} (h : a.take i = b.take i) (ha : i < a.length) (hb : i < b.length) (e : a.getD i d = b.getD i d) : a.take (i + 1) = b.take (i + 1) := by
  rw [List.take_add_one, List.take_add_one, h, List.getElem?_eq_getElem ha, List.getElem?_eq_getElem hb]
  simp only [List.getD_eq_getElem?_getD, List.getElem?_eq_getElem ha, List.getElem?_eq_getElem hb, Option.getD_some] at e
  rw [e]
theorem take_done {α : Type} {a b : List α} {i : Nat} (h : a.take i = b.take i) (ha : a.length ≤ i) (hb : b.length ≤ i) : a = b := by
  rwa [List.take_of_length_le ha, List.take_of_length_le hb] at h
/-! ### The functions that go through a map -/
def R10 : Nat → List AV → AH → AV → AH → Prop := fun g args H v H' =>
  (g = 15 → ∀ (a : Nat) (c : Int) (m : Nat) (x : AV) (es : List (Int × Nat)) (cl : Nat), args = [.p (some (a, 0))] → H.get a = some (.cells [.i .u32 c, .m (some m), x] true) → H.get m = some (.map (es.map uent) cl) → Out15 (blocksF c (es.map (·.1))) H v H') ∧ (g = 15 → args = [.p none] → v = .sl none 0 0 0 ∧ H' = H) ∧
  (g = 34 → ∀ (bx a m : Nat) (c : Int) (x1 x2 : AV) (es : List (Int × Nat)) (cl : Nat), args = [.m (some m), clv bx] → H.get bx = some (.cells [.p (some (a, 0))] true) → H.get a = some (.cells [.i .u32 c, x1, x2] true) → H.get m = some (.map (es.map uent) cl) → ∃ C, H.next ≤ C ∧ v = .tup [] ∧ H' = H34 H m c es cl C)
noncomputable def spA := spC Try.prog R10
theorem spA_ok : SpOK Try.prog tabS spA := spC_ok
theorem uent_inj {a b : List (Int × Nat)} (h : a.map uent = b.map uent) : a = b := by
  induction a generalizing b with
  | nil => cases b with | nil => rfl | cons _ _ => simp at h
  | cons p a ih =>
    cases b with
    | nil => simp at h
    | cons q b =>
      simp only [List.map_cons, List.cons.injEq, uent, Prod.mk.injEq, AV.i.injEq, true_and] at h
      rw [ih h.2, Prod.ext h.1.1 h.1.2]
theorem out15_hs {rows : List (Int × Int)} {H H' : AH} {v : AV} {S R : HL} (h : Out15 rows H v H') (hH : Hs H (S ++ R)) : ∃ rc, Sq 2 v rc (rw2 rows).flatten ∧ Hs H' (S ++ (qseg v rc ++ R)) := by
  obtain ⟨C, hC, h⟩ := h
  have h1 : Hs ⟨H.bl, C⟩ (S ++ R) := hH.keep hC (fun q _ => rfl) fun q b hb => Nat.lt_of_lt_of_le (hH.ok q b hb) hC
  rcases h with ⟨rfl, rfl, rfl⟩ | ⟨hne, rfl, rfl⟩
  · exact ⟨[], Sq.nil, h1⟩
  · refine ⟨_, Sq.full (.inr rfl) (rw2_len rows), ?_⟩
    have h2 := h1.new (n := C) (c := .cells (rw2 rows).flatten true) (H' := ⟨(C, some (.cells (rw2 rows).flatten true)) :: H.bl, C + 1⟩) ⟨rfl, rfl, by simp [AH.get, AH.getL], fun m hm => by simp [AH.get, AH.getL, Ne.symm hm]⟩
    rw [qseg_sl]
    exact h2.perm (List.perm_append_comm_assoc _ _ _)
theorem blocks_ev {H : AH} {a N : Nat} {s : Gp} {S R : HL} (hS : SortOK N) (hN : N ≤ 1000000) (hl : s.l.length ≤ N) (hG : GpH s a S) (hH : Hs H (S ++ R)) : Ev tabS spA (.fn (.func 15) [] []) [.p (some (a, 0))] H (fun r H' => ∃ rc, Sq 2 r rc (rw2 (blocksF s.c s.l)).flatten ∧ Hs H' (S ++ (qseg r rc ++ R))) := by
  obtain ⟨m, mb, dv, dc, hb, hd, rfl⟩ := hG
  have hH2 := hH.assoc.assoc1
  obtain ⟨v, H', h1, h2⟩ := blocks_spk hS hN hl hb hH2
  obtain ⟨es, cl, rfl, hu⟩ := hb
  have hA : H.get a = _ := hH2.get
  have hm : H.get m = _ := hH2.get1
  refine Ev.mono (spC_ev (R := R10) (g := 15) rfl ⟨v, H', ⟨fun _ a2 c2 m2 x2 es2 cl2 e1 e2 e3 => ?_, (fun _ e => by simp at e), (fun e => by cases e)⟩, h2⟩) fun r H3 h => ?_
  · simp only [List.cons.injEq, AV.p.injEq, Option.some.injEq, Prod.mk.injEq, and_true] at e1
    subst e1
    rw [hA] at e2
    simp only [Option.some.injEq, Blk.cells.injEq, List.cons.injEq, AV.i.injEq, AV.m.injEq, true_and, and_true] at e2
    obtain ⟨rfl, rfl, rfl⟩ := e2
    rw [hm] at e3
    simp only [Option.some.injEq, Blk.map.injEq] at e3
    rw [← uent_inj e3.1, hu.keys]
    exact h1
  · have := h.1 rfl a s.c m dv es cl rfl hA hm
    rw [hu.keys] at this
    exact out15_hs this hH
theorem del_ev {H : AH} {bx a m : Nat} {c : Int} {x1 x2 : AV} {l : List Int} {mb : Blk} {R : HL} (hb : Ub l mb) (hH : Hs H ([(bx, some (.cells [.p (some (a, 0))] true))] ++ ([(a, some (.cells [.i .u32 c, x1, x2] true))] ++ ([(m, some mb)] ++ R)))) : Ev tabS spA (.fn (.func 34) [] []) [.m (some m), clv bx] H (fun r H' => r = .tup [] ∧ ∃ mb', Ub (l.filter fun k => !blw c k) mb' ∧ Hs H' ([(bx, some (.cells [.p (some (a, 0))] true))] ++ ([(a, some (.cells [.i .u32 c, x1, x2] true))] ++ ([(m, some mb')] ++ R)))) := by
  obtain ⟨es, cl, rfl, hu⟩ := hb
  obtain ⟨v, H', h1, h2⟩ := del_spk (R := R) hu hH
  refine Ev.mono (spC_ev (R := R10) (g := 34) rfl ⟨v, H', ⟨(fun e => by cases e), (fun e => by cases e), fun _ bx2 a2 m2 c2 y1 y2 es2 cl2 e1 e2 e3 e4 => ?_⟩, h2⟩) fun r H3 h => ?_
  · simp only [List.cons.injEq, AV.m.injEq, AV.fn.injEq, AV.p.injEq, Option.some.injEq, Prod.mk.injEq, and_true, true_and] at e1
    obtain ⟨rfl, rfl⟩ := e1
    rw [hH.get] at e2
    simp only [Option.some.injEq, Blk.cells.injEq, List.cons.injEq, AV.p.injEq, Prod.mk.injEq, and_true] at e2
    subst e2
    rw [hH.get1] at e3
    simp only [Option.some.injEq, Blk.cells.injEq, List.cons.injEq, AV.i.injEq, true_and, and_true] at e3
    obtain ⟨rfl, rfl, rfl⟩ := e3
    rw [hH.get2] at e4
    simp only [Option.some.injEq, Blk.map.injEq] at e4
    obtain ⟨e5, rfl⟩ := e4
    rw [← uent_inj e5]
    exact h1
  · obtain ⟨C, hC, rfl, rfl⟩ := h.2.2 rfl bx a m c x1 x2 es cl rfl hH.get hH.get1 hH.get2
    exact ⟨rfl, _, ⟨_, cl, rfl, hu.del fun k => !blw c k⟩, del_hs hC hH rfl⟩
theorem blk_ev {H : AH} {R : HL} {va vb : AV} {ca cb : List AV} {la lb : List (Int × Int)} (ha : Sq 2 va ca (rw2 la).flatten) (hb : Sq 2 vb cb (rw2 lb).flatten) (hla : la.length ≤ 1000000) (hlb : lb.length ≤ 1000000) (hH0 : Hs H (qseg va ca ++ (qseg vb cb ++ R))) : Ev tabS spA (.fn (.func 25) [] []) [va, vb] H (fun r H' => r = .b (decide (la = lb)) ∧ Hs H' (qseg va ca ++ (qseg vb cb ++ R))) := by
  refine Ev_C (F := x25) rfl ?_
  refine C_seq ?_
  refine C_region ?_
  refine O_p (.b false) (r_mv rfl) ?_
  refine O_nil ?_
  refine C_seq ?_
  refine C_seq ?_
  refine C_region ?_
  refine O_p va (r_mv rfl) ?_
  refine O_p (.i .i64 (((la.length : Nat)) : Int)) (by exact (by exact r_lenOf rfl (ha.lenOf (rw2_len la) (by decide)) ha.isSl)) ?_
  refine O_p vb (r_mv rfl) ?_
  refine O_p (.i .i64 (((lb.length : Nat)) : Int)) (by exact (by exact r_lenOf rfl (hb.lenOf (rw2_len lb) (by decide)) hb.isSl)) ?_
  refine O_p (.b (!decide ((((la.length : Nat)) : Int) = (((lb.length : Nat)) : Int)))) (r_neq rfl rfl) ?_
  refine O_nil ?_
  refine C_cond (x := (!decide ((((la.length : Nat)) : Int) = (((lb.length : Nat)) : Int)))) rfl (fun hc1 => ?_) (fun hc1 => ?_)
  ·
    try simp only [decide_eq_true_eq, decide_eq_false_iff_not, Bool.not_eq_true', Bool.not_eq_false', Bool.and_eq_true, Bool.or_eq_true, Bool.or_eq_false_iff, Bool.not_not, Bool.and_eq_false_iff] at hc1
    have hne : la ≠ lb := fun e9 => hc1 (by rw [e9])
    refine C_seq ?_
    refine C_region ?_
    refine O_p (.b false) (r_mv rfl) ?_
    refine O_nil ?_
    refine C_ret ?_
    refine nx_ret ?_
    have hH2 := ((hH0.top1).top1)
    exact ⟨.inr rfl, _, resL_one (r_tmp (v := .b false) rfl), congrArg AV.b (decide_eq_false hne).symm, hH2⟩
  ·
    try simp only [decide_eq_true_eq, decide_eq_false_iff_not, Bool.not_eq_true', Bool.not_eq_false', Bool.and_eq_true, Bool.or_eq_true, Bool.or_eq_false_iff, Bool.not_not, Bool.and_eq_false_iff] at hc1
    have hll : la.length = lb.length := by omega
    refine C_skip ?_
    refine C_seq ?_
    refine C_seq ?_
    refine C_region ?_
    refine O_p (.i .i64 0) (r_mv rfl) ?_
    refine O_nil ?_
    refine C_block ?_
    refine C_while (fun m3 T4 H5 => ∃ i : Nat, m3 = la.length - i ∧ i ≤ la.length ∧ la.take i = lb.take i ∧ Hs H5 ((qseg va ca) ++ ((qseg vb cb) ++ (R))) ∧ T4.get 0 = va ∧ T4.get 1 = vb ∧ T4.get 5 = (.i .i64 (((i : Nat)) : Int))) (fun m3 T4 H5 hI6 => ?_) la.length _ _ ⟨0, rfl, by omega, rfl, hH0, rfl, rfl, rfl⟩
    obtain ⟨i, hm7, hp8, hp9, hH13, hT10, hT11, hT12⟩ := hI6
    refine C_seq ?_
    refine C_seq ?_
    refine C_region ?_
    refine O_p (.i .i64 (((i : Nat)) : Int)) (r_mv hT12) ?_
    refine O_p va (r_mv hT10) ?_
    refine O_p (.i .i64 (((la.length : Nat)) : Int)) (by exact (by exact r_lenOf rfl (ha.lenOf (rw2_len la) (by decide)) ha.isSl)) ?_
    refine O_p (.b (decide ((((i : Nat)) : Int) < (((la.length : Nat)) : Int)))) (r_lss rfl rfl) ?_
    refine O_nil ?_
    refine C_cond (x := (decide ((((i : Nat)) : Int) < (((la.length : Nat)) : Int)))) rfl (fun hc14 => ?_) (fun hc14 => ?_)
    ·
      try simp only [decide_eq_true_eq, decide_eq_false_iff_not, Bool.not_eq_true', Bool.not_eq_false', Bool.and_eq_true, Bool.or_eq_true, Bool.or_eq_false_iff, Bool.not_not, Bool.and_eq_false_iff] at hc14
      have hlt1 : i < la.length := by omega
      have hlt2 : i < lb.length := by omega
      refine C_skip ?_
      refine C_seq ?_
      refine C_block ?_
      refine C_seq ?_
      by_cases h1q : (la.getD i (0, 0)).1 = (lb.getD i (0, 0)).1
      ·
        refine C_draw fun b15 H16 hbase17 hA18 => ?_
        have hH19 := hH13.keep (by have := hA18.1; omega) (fun q _ => hA18.2 q) ((hH13.old).aside hA18).ok
        refine D_l (v := va) rfl rfl rfl (r_mv hT10) ?_
        refine D_l (v := (.i .i64 (((i : Nat)) : Int))) rfl rfl rfl (r_mv hT12) ?_
        refine D_q rfl rfl rfl (by exact Sq.cell ha (rw2_lens la) hH19.top0 rfl (i := i) rfl (r := [(.i .u16 (la.getD i (0, 0)).1), (.i .u16 (la.getD i (0, 0)).2)]) (rw2_get (l := la) (i := i) (by omega)) (by decide)) fun v21 hv20 => ?_
        obtain ⟨rb22, ro23, rfl, hrg24, hrt25, hrb26, hput27, hqs28⟩ := hv20
        refine D_l (v := (.p (some (rb22, (ro23 + 0))))) rfl rfl rfl (r_fadd' rfl rfl) ?_
        refine D_l (v := vb) rfl rfl rfl (r_mv hT11) ?_
        refine D_l (v := (.i .i64 (((i : Nat)) : Int))) rfl rfl rfl (r_mv hT12) ?_
        refine D_q rfl rfl rfl (by exact Sq.cell hb (rw2_lens lb) hH19.top1 rfl (i := i) rfl (r := [(.i .u16 (lb.getD i (0, 0)).1), (.i .u16 (lb.getD i (0, 0)).2)]) (rw2_get (l := lb) (i := i) (by omega)) (by decide)) fun v30 hv29 => ?_
        obtain ⟨rb31, ro32, rfl, hrg33, hrt34, hrb35, hput36, hqs37⟩ := hv29
        refine D_l (v := (.p (some (rb31, (ro32 + 0))))) rfl rfl rfl (r_fadd' rfl rfl) ?_
        refine D_r (v := (.i .u16 (la.getD i (0, 0)).1)) rfl rfl rfl (r_ldR (q := 0) rfl ⟨_, _, hrg24, hrt25⟩ rfl) ?_
        refine D_r (v := (.i .u16 (lb.getD i (0, 0)).1)) rfl rfl rfl (r_ldR (q := 0) rfl ⟨_, _, hrg33, hrt34⟩ rfl) ?_
        refine D_l (v := (.b false)) rfl rfl rfl (by exact (by rw [r_neq rfl rfl, decide_eq_true h1q]; rfl)) ?_
        refine D_l (v := (.b false)) rfl rfl rfl (r_mv rfl) ?_
        refine D_gk rfl ?_
        refine D_l (v := va) rfl rfl rfl (r_mv hT10) ?_
        refine D_gk rfl ?_
        refine D_l (v := (.i .i64 (((i : Nat)) : Int))) rfl rfl rfl (r_mv hT12) ?_
        refine D_gk rfl ?_
        refine D_q rfl rfl rfl (by exact Sq.cell ha (rw2_lens la) hH19.top0 rfl (i := i) rfl (r := [(.i .u16 (la.getD i (0, 0)).1), (.i .u16 (la.getD i (0, 0)).2)]) (rw2_get (l := la) (i := i) (by omega)) (by decide)) fun v39 hv38 => ?_
        obtain ⟨rb40, ro41, rfl, hrg42, hrt43, hrb44, hput45, hqs46⟩ := hv38
        refine D_gk rfl ?_
        refine D_l (v := (.p (some (rb40, (ro41 + 1))))) rfl rfl rfl (r_fadd' rfl rfl) ?_
        refine D_gk rfl ?_
        refine D_l (v := vb) rfl rfl rfl (r_mv hT11) ?_
        refine D_gk rfl ?_
        refine D_l (v := (.i .i64 (((i : Nat)) : Int))) rfl rfl rfl (r_mv hT12) ?_
        refine D_gk rfl ?_
        refine D_q rfl rfl rfl (by exact Sq.cell hb (rw2_lens lb) hH19.top1 rfl (i := i) rfl (r := [(.i .u16 (lb.getD i (0, 0)).1), (.i .u16 (lb.getD i (0, 0)).2)]) (rw2_get (l := lb) (i := i) (by omega)) (by decide)) fun v48 hv47 => ?_
        obtain ⟨rb49, ro50, rfl, hrg51, hrt52, hrb53, hput54, hqs55⟩ := hv47
        refine D_gk rfl ?_
        refine D_l (v := (.p (some (rb49, (ro50 + 1))))) rfl rfl rfl (r_fadd' rfl rfl) ?_
        refine D_gk rfl ?_
        refine D_r (v := (.i .u16 (la.getD i (0, 0)).2)) rfl rfl rfl (r_ldR (q := 1) rfl ⟨_, _, hrg42, hrt43⟩ rfl) ?_
        refine D_gk rfl ?_
        refine D_r (v := (.i .u16 (lb.getD i (0, 0)).2)) rfl rfl rfl (r_ldR (q := 1) rfl ⟨_, _, hrg51, hrt52⟩ rfl) ?_
        refine D_gk rfl ?_
        refine D_l (v := (.b (!decide ((la.getD i (0, 0)).2 = (lb.getD i (0, 0)).2)))) rfl rfl rfl (r_neq rfl rfl) ?_
        refine D_l (v := (.b (!decide ((la.getD i (0, 0)).2 = (lb.getD i (0, 0)).2)))) rfl rfl rfl (r_pick_f rfl rfl) ?_
        refine D_nil ?_
        refine C_cond (x := (!decide ((la.getD i (0, 0)).2 = (lb.getD i (0, 0)).2))) rfl (fun hc56 => ?_) (fun hc56 => ?_)
        ·
          have hraw := hc56
          try simp only [decide_eq_true_eq, decide_eq_false_iff_not, Bool.not_eq_true', Bool.not_eq_false', Bool.and_eq_true, Bool.or_eq_true, Bool.or_eq_false_iff, Bool.not_not, Bool.and_eq_false_iff] at hc56
          have hne : la ≠ lb := fun e9 => by rw [e9] at hraw; simp at hraw
          refine C_seq ?_
          refine C_region ?_
          refine O_p (.b false) (r_mv rfl) ?_
          refine O_nil ?_
          refine C_ret ?_
          refine bk_ret ?_
          refine nx_ret ?_
          refine nx_ret ?_
          refine bk_ret ?_
          refine nx_ret ?_
          have hH57 := ((hH19.top1).top1)
          exact ⟨.inr rfl, _, resL_one (r_tmp (v := .b false) rfl), congrArg AV.b (decide_eq_false hne).symm, hH57⟩
        ·
          have hraw := hc56
          try simp only [decide_eq_true_eq, decide_eq_false_iff_not, Bool.not_eq_true', Bool.not_eq_false', Bool.and_eq_true, Bool.or_eq_true, Bool.or_eq_false_iff, Bool.not_not, Bool.and_eq_false_iff] at hc56
          have heq : la.getD i (0, 0) = lb.getD i (0, 0) := Prod.ext h1q (by simpa using hraw)
          refine C_skip ?_
          refine C_region ?_
          refine O_p (.i .i64 (((i : Nat)) : Int)) (r_mv hT12) ?_
          refine O_p (.i .i64 ((((i : Nat)) : Int) + 1)) (by exact (r_addi rfl rfl (wrap_i64 (by omega) (by omega)))) ?_
          refine O_p (.i .i64 ((((i : Nat)) : Int) + 1)) (r_mv rfl) ?_
          refine O_nil ?_
          have hH58 := ((hH19.top1).top1)
          exact ⟨la.length - (i + 1), by omega, (i + 1), rfl, by omega, take_step hp9 hlt1 hlt2 heq, hH58, hT10, hT11, rfl⟩
      ·
        have hne : la ≠ lb := fun e9 => h1q (by rw [e9])
        refine C_draw fun b59 H60 hbase61 hA62 => ?_
        have hH63 := hH13.keep (by have := hA62.1; omega) (fun q _ => hA62.2 q) ((hH13.old).aside hA62).ok
        refine D_l (v := va) rfl rfl rfl (r_mv hT10) ?_
        refine D_l (v := (.i .i64 (((i : Nat)) : Int))) rfl rfl rfl (r_mv hT12) ?_
        refine D_q rfl rfl rfl (by exact Sq.cell ha (rw2_lens la) hH63.top0 rfl (i := i) rfl (r := [(.i .u16 (la.getD i (0, 0)).1), (.i .u16 (la.getD i (0, 0)).2)]) (rw2_get (l := la) (i := i) (by omega)) (by decide)) fun v65 hv64 => ?_
        obtain ⟨rb66, ro67, rfl, hrg68, hrt69, hrb70, hput71, hqs72⟩ := hv64
        refine D_l (v := (.p (some (rb66, (ro67 + 0))))) rfl rfl rfl (r_fadd' rfl rfl) ?_
        refine D_l (v := vb) rfl rfl rfl (r_mv hT11) ?_
        refine D_l (v := (.i .i64 (((i : Nat)) : Int))) rfl rfl rfl (r_mv hT12) ?_
        refine D_q rfl rfl rfl (by exact Sq.cell hb (rw2_lens lb) hH63.top1 rfl (i := i) rfl (r := [(.i .u16 (lb.getD i (0, 0)).1), (.i .u16 (lb.getD i (0, 0)).2)]) (rw2_get (l := lb) (i := i) (by omega)) (by decide)) fun v74 hv73 => ?_
        obtain ⟨rb75, ro76, rfl, hrg77, hrt78, hrb79, hput80, hqs81⟩ := hv73
        refine D_l (v := (.p (some (rb75, (ro76 + 0))))) rfl rfl rfl (r_fadd' rfl rfl) ?_
        refine D_r (v := (.i .u16 (la.getD i (0, 0)).1)) rfl rfl rfl (r_ldR (q := 0) rfl ⟨_, _, hrg68, hrt69⟩ rfl) ?_
        refine D_r (v := (.i .u16 (lb.getD i (0, 0)).1)) rfl rfl rfl (r_ldR (q := 0) rfl ⟨_, _, hrg77, hrt78⟩ rfl) ?_
        refine D_l (v := (.b true)) rfl rfl rfl (by exact (by rw [r_neq rfl rfl, decide_eq_false h1q]; rfl)) ?_
        refine D_l (v := (.b true)) rfl rfl rfl (r_mv rfl) ?_
        refine D_gf rfl ?_
        refine D_gf rfl ?_
        refine D_gf rfl ?_
        refine D_gf rfl ?_
        refine D_gf rfl ?_
        refine D_gf rfl ?_
        refine D_gf rfl ?_
        refine D_gf rfl ?_
        refine D_gf rfl ?_
        refine D_gf rfl ?_
        refine D_gf rfl ?_
        refine D_l (v := (.b true)) rfl rfl rfl (r_pick_t rfl rfl) ?_
        refine D_nil ?_
        refine C_cond (x := true) rfl (fun _ => ?_) (fun h => by cases h)
        refine C_seq ?_
        refine C_region ?_
        refine O_p (.b false) (r_mv rfl) ?_
        refine O_nil ?_
        refine C_ret ?_
        refine bk_ret ?_
        refine nx_ret ?_
        refine nx_ret ?_
        refine bk_ret ?_
        refine nx_ret ?_
        have hH82 := ((hH63.top1).top1)
        exact ⟨.inr rfl, _, resL_one (r_tmp (v := .b false) rfl), congrArg AV.b (decide_eq_false hne).symm, hH82⟩
    ·
      try simp only [decide_eq_true_eq, decide_eq_false_iff_not, Bool.not_eq_true', Bool.not_eq_false', Bool.and_eq_true, Bool.or_eq_true, Bool.or_eq_false_iff, Bool.not_not, Bool.and_eq_false_iff] at hc14
      refine C_exit ?_
      refine nx_exit ?_
      refine nx_exit ?_
      refine bk_hit ?_
      refine C_seq ?_
      refine C_region ?_
      refine O_p (.b true) (r_mv rfl) ?_
      refine O_nil ?_
      refine C_ret ?_
      have hH83 := ((hH13.top1).top1)
      exact ⟨.inr rfl, _, resL_one (r_tmp (v := .b true) rfl), congrArg AV.b (decide_eq_true (take_done hp9 (by omega) (by omega))).symm, hH83⟩
theorem num_ev {H : AH} {R : HL} {va vb : AV} {ca cb : List AV} {la lb : List Int} (ha : Sq 1 va ca (lU la)) (hb : Sq 1 vb cb (lU lb)) (hla : la.length ≤ 1000000) (hlb : lb.length ≤ 1000000) (hH0 : Hs H (qseg va ca ++ (qseg vb cb ++ R))) : Ev tabS spA (.fn (.func 22) [] []) [va, vb] H (fun r H' => r = .b (decide (la = lb)) ∧ Hs H' (qseg va ca ++ (qseg vb cb ++ R))) := by
  refine Ev_C (F := x22) rfl ?_
  refine C_seq ?_
  refine C_region ?_
  refine O_p (.b false) (r_mv rfl) ?_
  refine O_nil ?_
  refine C_seq ?_
  refine C_seq ?_
  refine C_region ?_
  refine O_p va (r_mv rfl) ?_
  refine O_p (.i .i64 (((la.length : Nat)) : Int)) (by exact (by exact r_lenOf rfl (ha.lenOf (lU_len la) (by decide)) ha.isSl)) ?_
  refine O_p vb (r_mv rfl) ?_
  refine O_p (.i .i64 (((lb.length : Nat)) : Int)) (by exact (by exact r_lenOf rfl (hb.lenOf (lU_len lb) (by decide)) hb.isSl)) ?_
  refine O_p (.b (!decide ((((la.length : Nat)) : Int) = (((lb.length : Nat)) : Int)))) (r_neq rfl rfl) ?_
  refine O_nil ?_
  refine C_cond (x := (!decide ((((la.length : Nat)) : Int) = (((lb.length : Nat)) : Int)))) rfl (fun hc1 => ?_) (fun hc1 => ?_)
  ·
    try simp only [decide_eq_true_eq, decide_eq_false_iff_not, Bool.not_eq_true', Bool.not_eq_false', Bool.and_eq_true, Bool.or_eq_true, Bool.or_eq_false_iff, Bool.not_not, Bool.and_eq_false_iff] at hc1
    have hne : la ≠ lb := fun e9 => hc1 (by rw [e9])
    refine C_seq ?_
    refine C_region ?_
    refine O_p (.b false) (r_mv rfl) ?_
    refine O_nil ?_
    refine C_ret ?_
    refine nx_ret ?_
    have hH2 := ((hH0.top1).top1)
    exact ⟨.inr rfl, _, resL_one (r_tmp (v := .b false) rfl), congrArg AV.b (decide_eq_false hne).symm, hH2⟩
  ·
    try simp only [decide_eq_true_eq, decide_eq_false_iff_not, Bool.not_eq_true', Bool.not_eq_false', Bool.and_eq_true, Bool.or_eq_true, Bool.or_eq_false_iff, Bool.not_not, Bool.and_eq_false_iff] at hc1
    have hll : la.length = lb.length := by omega
    refine C_skip ?_
    refine C_seq ?_
    refine C_seq ?_
    refine C_region ?_
    refine O_p (.i .i64 0) (r_mv rfl) ?_
    refine O_nil ?_
    refine C_block ?_
    refine C_while (fun m3 T4 H5 => ∃ i : Nat, m3 = la.length - i ∧ i ≤ la.length ∧ la.take i = lb.take i ∧ Hs H5 ((qseg va ca) ++ ((qseg vb cb) ++ (R))) ∧ T4.get 0 = va ∧ T4.get 1 = vb ∧ T4.get 5 = (.i .i64 (((i : Nat)) : Int))) (fun m3 T4 H5 hI6 => ?_) la.length _ _ ⟨0, rfl, by omega, rfl, hH0, rfl, rfl, rfl⟩
    obtain ⟨i, hm7, hp8, hp9, hH13, hT10, hT11, hT12⟩ := hI6
    refine C_seq ?_
    refine C_seq ?_
    refine C_region ?_
    refine O_p (.i .i64 (((i : Nat)) : Int)) (r_mv hT12) ?_
    refine O_p va (r_mv hT10) ?_
    refine O_p (.i .i64 (((la.length : Nat)) : Int)) (by exact (by exact r_lenOf rfl (ha.lenOf (lU_len la) (by decide)) ha.isSl)) ?_
    refine O_p (.b (decide ((((i : Nat)) : Int) < (((la.length : Nat)) : Int)))) (r_lss rfl rfl) ?_
    refine O_nil ?_
    refine C_cond (x := (decide ((((i : Nat)) : Int) < (((la.length : Nat)) : Int)))) rfl (fun hc14 => ?_) (fun hc14 => ?_)
    ·
      try simp only [decide_eq_true_eq, decide_eq_false_iff_not, Bool.not_eq_true', Bool.not_eq_false', Bool.and_eq_true, Bool.or_eq_true, Bool.or_eq_false_iff, Bool.not_not, Bool.and_eq_false_iff] at hc14
      have hlt1 : i < la.length := by omega
      have hlt2 : i < lb.length := by omega
      refine C_skip ?_
      refine C_seq ?_
      refine C_block ?_
      refine C_seq ?_
      refine C_draw fun b15 H16 hbase17 hA18 => ?_
      have hH19 := hH13.keep (by have := hA18.1; omega) (fun q _ => hA18.2 q) ((hH13.old).aside hA18).ok
      refine D_l (v := va) rfl rfl rfl (r_mv hT10) ?_
      refine D_l (v := (.i .i64 (((i : Nat)) : Int))) rfl rfl rfl (r_mv hT12) ?_
      refine D_q rfl rfl rfl (by exact Sq.cell ha (u1_lens la) hH19.top0 rfl (i := i) rfl (r := [(.i .u32 (la.getD i 0))]) (u1_get (l := la) (i := i) (by omega)) (by decide)) fun v21 hv20 => ?_
      obtain ⟨rb22, ro23, rfl, hrg24, hrt25, hrb26, hput27, hqs28⟩ := hv20
      refine D_l (v := vb) rfl rfl rfl (r_mv hT11) ?_
      refine D_l (v := (.i .i64 (((i : Nat)) : Int))) rfl rfl rfl (r_mv hT12) ?_
      refine D_q rfl rfl rfl (by exact Sq.cell hb (u1_lens lb) hH19.top1 rfl (i := i) rfl (r := [(.i .u32 (lb.getD i 0))]) (u1_get (l := lb) (i := i) (by omega)) (by decide)) fun v30 hv29 => ?_
      obtain ⟨rb31, ro32, rfl, hrg33, hrt34, hrb35, hput36, hqs37⟩ := hv29
      refine D_r (v := (.i .u32 (la.getD i 0))) rfl rfl rfl (r_ldR (q := 0) rfl ⟨_, _, hrg24, hrt25⟩ rfl) ?_
      refine D_r (v := (.i .u32 (lb.getD i 0))) rfl rfl rfl (r_ldR (q := 0) rfl ⟨_, _, hrg33, hrt34⟩ rfl) ?_
      refine D_l (v := (.b (!decide ((la.getD i 0) = (lb.getD i 0))))) rfl rfl rfl (r_neq rfl rfl) ?_
      refine D_nil ?_
      refine C_cond (x := (!decide ((la.getD i 0) = (lb.getD i 0)))) rfl (fun hc38 => ?_) (fun hc38 => ?_)
      ·
        have hraw := hc38
        try simp only [decide_eq_true_eq, decide_eq_false_iff_not, Bool.not_eq_true', Bool.not_eq_false', Bool.and_eq_true, Bool.or_eq_true, Bool.or_eq_false_iff, Bool.not_not, Bool.and_eq_false_iff] at hc38
        have hne : la ≠ lb := fun e9 => by rw [e9] at hraw; simp at hraw
        refine C_seq ?_
        refine C_region ?_
        refine O_p (.b false) (r_mv rfl) ?_
        refine O_nil ?_
        refine C_ret ?_
        refine bk_ret ?_
        refine nx_ret ?_
        refine nx_ret ?_
        refine bk_ret ?_
        refine nx_ret ?_
        have hH39 := ((hH19.top1).top1)
        exact ⟨.inr rfl, _, resL_one (r_tmp (v := .b false) rfl), congrArg AV.b (decide_eq_false hne).symm, hH39⟩
      ·
        have hraw := hc38
        try simp only [decide_eq_true_eq, decide_eq_false_iff_not, Bool.not_eq_true', Bool.not_eq_false', Bool.and_eq_true, Bool.or_eq_true, Bool.or_eq_false_iff, Bool.not_not, Bool.and_eq_false_iff] at hc38
        have heq : la.getD i 0 = lb.getD i 0 := by simpa using hraw
        refine C_skip ?_
        refine C_region ?_
        refine O_p (.i .i64 (((i : Nat)) : Int)) (r_mv hT12) ?_
        refine O_p (.i .i64 ((((i : Nat)) : Int) + 1)) (by exact (r_addi rfl rfl (wrap_i64 (by omega) (by omega)))) ?_
        refine O_p (.i .i64 ((((i : Nat)) : Int) + 1)) (r_mv rfl) ?_
        refine O_nil ?_
        have hH40 := ((hH19.top1).top1)
        exact ⟨la.length - (i + 1), by omega, (i + 1), rfl, by omega, take_step hp9 hlt1 hlt2 heq, hH40, hT10, hT11, rfl⟩
    ·
      try simp only [decide_eq_true_eq, decide_eq_false_iff_not, Bool.not_eq_true', Bool.not_eq_false', Bool.and_eq_true, Bool.or_eq_true, Bool.or_eq_false_iff, Bool.not_not, Bool.and_eq_false_iff] at hc14
      refine C_exit ?_
      refine nx_exit ?_
      refine nx_exit ?_
      refine bk_hit ?_
      refine C_seq ?_
      refine C_region ?_
      refine O_p (.b true) (r_mv rfl) ?_
      refine O_nil ?_
      refine C_ret ?_
      have hH41 := ((hH13.top1).top1)
      exact ⟨.inr rfl, _, resL_one (r_tmp (v := .b true) rfl), congrArg AV.b (decide_eq_true (take_done hp9 (by omega) (by omega))).symm, hH41⟩


set_option linter.unusedVariables false
set_option linter.unusedSimpArgs false
open Go.Sort (ltInt)
theorem aw0 : IntKind.u32.wrap (10 - 1) = 9 := by decide
theorem aw1 : Gp.add ⟨9, [], []⟩ 12 = ⟨9, [12], []⟩ := by unfold Gp.add; rw [if_neg (by decide), if_neg (by decide)]; show Gp.climb ⟨9, [12], []⟩ = _; unfold Gp.climb; rw [climbF_stop (by decide)]
theorem aw2 : Gp.add ⟨9, [12], []⟩ 13 = ⟨9, [12, 13], []⟩ := by unfold Gp.add; rw [if_neg (by decide), if_neg (by decide)]; show Gp.climb ⟨9, [12, 13], []⟩ = _; unfold Gp.climb; rw [climbF_stop (by decide)]
theorem aw3 : Gp.add ⟨9, [12, 13], []⟩ 10 = ⟨10, [12, 13], []⟩ := by
  unfold Gp.add; rw [if_neg (by decide), if_neg (by decide)]; show Gp.climb ⟨9, [12, 13, 10], []⟩ = _; unfold Gp.climb
  rw [climbF_step (by decide), show nxt 9 = 10 from rfl, show udel [12, 13, 10] 10 = [12, 13] by decide, climbF_stop (by decide)]
theorem aw4 : Gp.add ⟨10, [12, 13], []⟩ 11 = ⟨13, [], []⟩ := by
  unfold Gp.add; rw [if_neg (by decide), if_neg (by decide)]; show Gp.climb ⟨10, [12, 13, 11], []⟩ = _; unfold Gp.climb
  rw [climbF_step (by decide), show nxt 10 = 11 from rfl, show udel [12, 13, 11] 11 = [12, 13] by decide, climbF_step (by decide), show nxt 11 = 12 from rfl, show udel [12, 13] 12 = [13] by decide, climbF_step (by decide), show nxt 12 = 13 from rfl, show udel [13] 13 = [] by decide, climbF_stop (by decide)]
theorem aw5 : Gp.add ⟨13, [], []⟩ 12 = ⟨13, [], [12]⟩ := by unfold Gp.add; rw [if_pos (by decide), if_pos (by decide)]; rfl
theorem awb : blocksF 10 [12, 13] = [(2, 3)] := by
  unfold blocksF
  rw [show [12, 13].map (dst 10) = [2, 3] by decide, show msort [2, 3] = [2, 3] from List.mergeSort_of_pairwise (by decide)]
  decide
set_option maxRecDepth 100000 in
set_option maxHeartbeats 2000000 in
theorem awake_ev {H : AH} {R : HL} (hH0 : Hs H R) : Ev tabS spA (.fn (.func 9) [] []) [] H (fun r H' => r = .b true ∧ Hs H' R) := by
  refine Ev_C (F := x9) rfl ?_
  refine C_seq ?_
  refine C_region ?_
  refine O_p (.b false) (r_mv rfl) ?_
  refine O_nil ?_
  refine C_seq ?_
  refine C_region ?_
  refine O_call (Ev.mono (new_ev hH0).sp fun v1 H2 hq3 => ?_)
  obtain ⟨ga, S0, rfl, hG0, hHn⟩ := hq3
  rw [aw0] at hG0
  refine O_p (.p (some (ga, 0))) (r_mv rfl) ?_
  refine O_nil ?_
  refine C_seq ?_
  refine C_region ?_
  refine O_p (.p (some (ga, 0))) (r_mv rfl) ?_
  refine O_call (Ev.mono (add_ev (n := 12) hG0 hHn (by decide)).sp fun v7 H8 hq9 => ?_)
  obtain ⟨rfl, S4, hG5, hH6⟩ := hq9
  rw [aw1] at hG5
  rw [show Gp.told ⟨9, [], []⟩ 12 = 0 by decide]
  refine O_p (.i .i64 0) (r_mv rfl) ?_
  refine O_nil ?_
  refine C_seq ?_
  refine C_region ?_
  refine O_p (.p (some (ga, 0))) (r_mv rfl) ?_
  refine O_call (Ev.mono (add_ev (n := 13) hG5 hH6 (by decide)).sp fun v13 H14 hq15 => ?_)
  obtain ⟨rfl, S10, hG11, hH12⟩ := hq15
  rw [aw2] at hG11
  rw [show Gp.told ⟨9, [12], []⟩ 13 = 0 by decide]
  refine O_p (.i .i64 0) (r_mv rfl) ?_
  refine O_nil ?_
  refine C_seq ?_
  refine C_region ?_
  refine O_p (.p (some (ga, 0))) (r_mv rfl) ?_
  refine O_call (Ev.mono (add_ev (n := 10) hG11 hH12 (by decide)).sp fun v19 H20 hq21 => ?_)
  obtain ⟨rfl, S16, hG17, hH18⟩ := hq21
  rw [aw3] at hG17
  rw [show Gp.told ⟨9, [12, 13], []⟩ 10 = 0 by decide]
  refine O_p (.i .i64 0) (r_mv rfl) ?_
  refine O_nil ?_
  refine C_seq ?_
  refine C_region ?_
  refine O_p (.p (some (ga, 0))) (r_mv rfl) ?_
  refine O_call (Ev.mono (blocks_ev sort12 (by decide) (by decide) hG17 hH18) fun v22 H23 hq24 => ?_)
  obtain ⟨rc25, hr26, hH27⟩ := hq24
  rw [awb] at hr26
  refine O_p v22 (r_mv rfl) ?_
  refine O_nil ?_
  refine C_seq ?_
  refine C_region ?_
  refine O_p (.p (some (ga, 0))) (r_mv rfl) ?_
  refine O_p (.b true) (r_nilq_s rfl) ?_
  refine O_p (.b true) (r_mv rfl) ?_
  refine O_gk rfl ?_
  refine O_p (.i .i64 0) (r_mv rfl) ?_
  refine O_gk rfl ?_
  refine O_p (.b true) (r_bin rfl rfl rfl) ?_
  refine O_p (.b true) (r_pick_t rfl rfl) ?_
  refine O_p (.b true) (r_mv rfl) ?_
  refine O_gk rfl ?_
  refine O_p (.i .i64 0) (r_mv rfl) ?_
  refine O_gk rfl ?_
  refine O_p (.b true) (r_bin rfl rfl rfl) ?_
  refine O_p (.b true) (r_pick_t rfl rfl) ?_
  refine O_p (.b true) (r_mv rfl) ?_
  refine O_gk rfl ?_
  refine O_p (.i .i64 0) (r_mv rfl) ?_
  refine O_gk rfl ?_
  refine O_p (.b true) (r_bin rfl rfl rfl) ?_
  refine O_p (.b true) (r_pick_t rfl rfl) ?_
  refine O_p (.b true) (r_mv rfl) ?_
  refine O_gk rfl ?_
  refine O_p (.p (some (ga, 0))) (r_mv rfl) ?_
  refine O_gk rfl ?_
  refine O_call (Ev.mono (cum_ev hG17 hH27).sp fun v28 H29 hq30 => ?_)
  obtain ⟨rfl, hH31⟩ := hq30
  refine O_gk rfl ?_
  refine O_p (.b true) (r_eqq rfl rfl) ?_
  refine O_p (.b true) (r_pick_t rfl rfl) ?_
  refine O_p (.b true) (r_mv rfl) ?_
  refine O_gk rfl ?_
  refine O_p v22 (r_mv rfl) ?_
  refine O_gk rfl ?_
  refine O_p (.agg [(.i .u16 2), (.i .u16 3)]) (r_build rfl) ?_
  refine O_gk rfl ?_
  refine O_bslice (c := [(.i .u16 2), (.i .u16 3)]) rfl fun n32 H33 hN34 => ?_
  have hH35 := hH31.new hN34
  refine O_gk rfl ?_
  have hH36 := (hH35.top2)
  refine O_call (Ev.mono (blk_ev (la := ([(2, 3)] : List (Int × Int))) (lb := ([(2, 3)] : List (Int × Int))) (vb := (.sl (some (n32, 0)) 1 1 0)) (cb := [(.i .u16 2), (.i .u16 3)]) hr26 (Sq.full (b := n32) (n := 1) (g := 0) (.inl rfl) rfl) (by decide) (by decide) (by exact hH36)) fun v37 H38 hq39 => ?_)
  obtain ⟨rfl, hH40⟩ := hq39
  rw [show decide (([(2, 3)] : List (Int × Int)) = ([(2, 3)] : List (Int × Int))) = true from decide_eq_true rfl]
  refine O_p (.b true) (r_pick_t rfl rfl) ?_
  refine O_p (.b true) (r_mv rfl) ?_
  refine O_gk rfl ?_
  refine O_p (.p (some (ga, 0))) (r_mv rfl) ?_
  refine O_gk rfl ?_
  have hH44 := (hH40.top2)
  refine O_call (Ev.mono (add_ev (n := 11) hG17 hH44 (by decide)).sp fun v45 H46 hq47 => ?_)
  obtain ⟨rfl, S41, hG42, hH43⟩ := hq47
  rw [aw4] at hG42
  rw [show Gp.told ⟨10, [12, 13], []⟩ 11 = 0 by decide]
  refine O_gk rfl ?_
  refine O_p (.b true) (r_bin rfl rfl rfl) ?_
  refine O_p (.b true) (r_pick_t rfl rfl) ?_
  refine O_p (.b true) (r_mv rfl) ?_
  refine O_gk rfl ?_
  refine O_p (.p (some (ga, 0))) (r_mv rfl) ?_
  refine O_gk rfl ?_
  refine O_call (Ev.mono (cum_ev hG42 hH43).sp fun v48 H49 hq50 => ?_)
  obtain ⟨rfl, hH51⟩ := hq50
  refine O_gk rfl ?_
  refine O_p (.b true) (r_eqq rfl rfl) ?_
  refine O_p (.b true) (r_pick_t rfl rfl) ?_
  refine O_p (.b true) (r_mv rfl) ?_
  refine O_gk rfl ?_
  refine O_p (.p (some (ga, 0))) (r_mv rfl) ?_
  refine O_gk rfl ?_
  refine O_call (Ev.mono (add_ev (n := 12) hG42 hH51 (by decide)).sp fun v55 H56 hq57 => ?_)
  obtain ⟨rfl, S52, hG53, hH54⟩ := hq57
  rw [aw5] at hG53
  rw [show Gp.told ⟨13, [], []⟩ 12 = 1 by decide]
  refine O_gk rfl ?_
  refine O_p (.b true) (r_bin rfl rfl rfl) ?_
  refine O_p (.b true) (r_pick_t rfl rfl) ?_
  refine O_p (.b true) (r_mv rfl) ?_
  refine O_gk rfl ?_
  refine O_p (.p (some (ga, 0))) (r_mv rfl) ?_
  refine O_gk rfl ?_
  refine O_call (Ev.mono (dups_ev hG53 hH54).sp fun v58 H59 hq60 => ?_)
  obtain ⟨dc61, S62, hd63, hG64, hH65⟩ := hq60
  refine O_gk rfl ?_
  refine O_bslice (c := [(.i .u32 12)]) rfl fun n66 H67 hN68 => ?_
  have hH69 := hH65.new hN68
  refine O_gk rfl ?_
  have hH70 := (hH69.top2)
  refine O_call (Ev.mono (num_ev (la := ([12] : List Int)) (lb := ([12] : List Int)) (vb := (.sl (some (n66, 0)) 1 1 0)) (cb := [(.i .u32 12)]) hd63 (Sq.full (b := n66) (n := 1) (g := 0) (.inl rfl) rfl) (by decide) (by decide) (by exact hH70)) fun v71 H72 hq73 => ?_)
  obtain ⟨rfl, hH74⟩ := hq73
  rw [show decide (([12] : List Int) = ([12] : List Int)) = true from decide_eq_true rfl]
  refine O_p (.b true) (r_pick_t rfl rfl) ?_
  refine O_p (.b true) (r_mv rfl) ?_
  refine O_gk rfl ?_
  refine O_p (.p (some (ga, 0))) (r_mv rfl) ?_
  refine O_gk rfl ?_
  have hH75 := (hH74.top2)
  refine O_call (Ev.mono (len_ev hG64 hH75).sp fun v76 H77 hq78 => ?_)
  obtain ⟨rfl, hH79⟩ := hq78
  refine O_gk rfl ?_
  refine O_p (.b true) (r_bin rfl rfl rfl) ?_
  refine O_p (.b true) (r_pick_t rfl rfl) ?_
  refine O_p (.b true) (r_mv rfl) ?_
  refine O_nil ?_
  refine C_ret ?_
  have hH80 := (((((hH79.sub0).sub0).sub0).sub0).sub0)
  exact ⟨.inr rfl, _, resL_one (r_tmp (v := (.b true)) rfl), rfl, hH80⟩
end Go.Proofs.Ytjheedfobmlalaa.E
