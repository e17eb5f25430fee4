/- Facts of layer 4's functions of numbers alone: rounds, turns. It bears no condition. -/
import Derived.Test.YteapgimihapefaaX
import Derived.Test.YteapgimihapefaaE36
namespace Go.Proofs.Yteapgimihapefaa.E
set_option linter.unusedVariables false
theorem globals0 : Try.prog.globals.size = 0 := by kernel_rfl
theorem mixed : Try.prog.follows .mixedOrders = true := by kernel_rfl
theorem laid : laidOutB Try.prog = true := by kernel_rfl
theorem Ev_map {tab : Nat → Option XFun} {sp : Nat → List AV → AH → Option (AV × AH)} {f : AV} {args : List AV} {H : AH} {v : AV} (k : Nat) (h : (exec tab sp k f args H).map (·.1) = some v) : Ev tab sp f args H (fun x _ => x = v) := by
  cases h2 : exec tab sp k f args H with
  | none => rw [h2] at h; cases h
  | some r => rw [h2] at h; exact ⟨k, r.1, r.2, h2, by simpa using h⟩

def orI (x y : Int) : Int := IntKind.u64.wrap ((BitVec.ofInt 64 x ||| BitVec.ofInt 64 y).toNat : Int)
def xorI (x y : Int) : Int := IntKind.u64.wrap ((BitVec.ofInt 64 x ^^^ BitVec.ofInt 64 y).toNat : Int)
def addI (x y : Int) : Int := IntKind.u64.wrap (x + y)
def rotI (x : Int) (n : Nat) : Int := orI (IntKind.u64.wrap (x * 2 ^ n)) (x.fdiv (2 ^ (64 - n)))
def rnd (a b c d : Int) : Int × Int × Int × Int :=
  let a1 := addI a b
  let c1 := addI c d
  let b1 := xorI (rotI b 13) a1
  let d1 := xorI (rotI d 16) c1
  let a2 := addI (rotI a1 32) d1
  let c2 := addI c1 b1
  let d2 := xorI (rotI d1 21) a2
  let b2 := xorI (rotI b1 17) c2
  (a2, b2, rotI c2 32, d2)
def rnd4 (v : Int × Int × Int × Int) : Int × Int × Int × Int := rnd v.1 v.2.1 v.2.2.1 v.2.2.2
def quad (v : Int × Int × Int × Int) : List AV := [.i .u64 v.1, .i .u64 v.2.1, .i .u64 v.2.2.1, .i .u64 v.2.2.2]
def tk (v : Int × Int × Int × Int) (w : Int) : Int × Int × Int × Int :=
  let r := rnd4 (rnd4 (v.1, v.2.1, v.2.2.1, xorI v.2.2.2 w))
  (xorI r.1 w, r.2)
theorem rot13 (x : Int) : (exec tab noSp 50 (.fn (.func 41) [] []) [.i .u64 x, .i .i64 13] e0).map (·.1) = some (.i .u64 (rotI x 13)) := by kernel_rfl
theorem rot16 (x : Int) : (exec tab noSp 50 (.fn (.func 41) [] []) [.i .u64 x, .i .i64 16] e0).map (·.1) = some (.i .u64 (rotI x 16)) := by kernel_rfl
theorem rot17 (x : Int) : (exec tab noSp 50 (.fn (.func 41) [] []) [.i .u64 x, .i .i64 17] e0).map (·.1) = some (.i .u64 (rotI x 17)) := by kernel_rfl
theorem rot21 (x : Int) : (exec tab noSp 50 (.fn (.func 41) [] []) [.i .u64 x, .i .i64 21] e0).map (·.1) = some (.i .u64 (rotI x 21)) := by kernel_rfl
theorem rot32 (x : Int) : (exec tab noSp 50 (.fn (.func 41) [] []) [.i .u64 x, .i .i64 32] e0).map (·.1) = some (.i .u64 (rotI x 32)) := by kernel_rfl
def f13 : List AV → Option AV
  | [.i .u64 x, .i .i64 n] => if n = 13 ∨ n = 16 ∨ n = 17 ∨ n = 21 ∨ n = 32 then some (.i .u64 (rotI x n.toNat)) else none
  | _ => none
theorem f13_ok (xs : List AV) (v : AV) (h : f13 xs = some v) : flatVL xs = true ∧ flatV v = true ∧ Ev tab noSp (.fn (.func 41) [] []) xs e0 (fun x _ => x = v) := by
  unfold f13 at h
  split at h
  · rename_i x n
    split at h
    · rename_i hn
      simp only [Option.some.injEq] at h; subst h
      refine ⟨rfl, rfl, ?_⟩
      rcases hn with rfl | rfl | rfl | rfl | rfl
      · exact Ev_map 50 (rot13 x)
      · exact Ev_map 50 (rot16 x)
      · exact Ev_map 50 (rot17 x)
      · exact Ev_map 50 (rot21 x)
      · exact Ev_map 50 (rot32 x)
    · cases h
  · cases h
def sp13 := withPure 41 f13 noSp
def tab13 := without [41] tab
theorem tab13_ok : TabOK Try.prog tab13 := without_ok tab_ok
theorem sp13_ok {tab' : Nat → Option XFun} : SpOK Try.prog tab' sp13 := withPure_ok mixed globals0 tab_ok noSp_ok f13_ok noSp_ok
theorem round8 (a b c d : Int) : Ev tab13 sp13 (.fn (.func 36) [] []) [.agg [.i .u64 a, .i .u64 b, .i .u64 c, .i .u64 d]] e0 (fun x _ => x = .agg (quad (rnd a b c d))) := by
  refine Ev_C (F := x36) rfl ?_
  refine C_seq ?_
  refine C_region ?_
  refine O_box (z := [(.i .u64 a), (.i .u64 b), (.i .u64 c), (.i .u64 d)]) rfl fun n1 H2 hN3 => ?_
  have hF4 := hN3.fr (fun _ => False)
  have hnm_n1 : n1 = e0.next := hN3.1
  have hnx_H2 : H2.next = e0.next + 1 := hN3.2.1
  have hlt_n1 : n1 < H2.next := by omega
  refine O_alloc fun n5 H6 hN7 => ?_
  have hF8 := hN7.fr (fun _ => False)
  have hb9 := (hF8.keep _ (by exact hlt_n1) (fun h => h)).trans hN3.2.2.1
  have hnm_n5 : n5 = H2.next := hN7.1
  have hnx_H6 : H6.next = H2.next + 1 := hN7.2.1
  have hlt_n1 : n1 < H6.next := by omega
  have hlt_n5 : n5 < H6.next := by omega
  refine O_nil ?_
  refine C_seq ?_
  refine C_region ?_
  refine O_p (.p (some (n1, 0))) (r_iarr' rfl rfl rfl rfl) ?_
  refine O_p (.i .u64 a) (r_ld rfl hb9 rfl) ?_
  refine O_p (.p (some (n1, 1))) (r_iarr' rfl rfl rfl rfl) ?_
  refine O_p (.i .u64 b) (r_ld rfl hb9 rfl) ?_
  refine O_p (.i .u64 (IntKind.u64.wrap (a + b))) (r_bin rfl rfl rfl) ?_
  refine O_p (.p (some (n1, 0))) (r_iarr' rfl rfl rfl rfl) ?_
  refine O_store (vs := [(.i .u64 (IntKind.u64.wrap (a + b)))]) (c' := [(.i .u64 (IntKind.u64.wrap (a + b))), (.i .u64 b), (.i .u64 c), (.i .u64 d)]) rfl (by rfl) hb9 rfl (List.cons_ne_nil _ _) (Nat.le_of_ble_eq_true rfl) rfl fun H10 hW11 => ?_
  have hb12 := (hW11.2.2 _ (by omega)).trans hN7.2.2.1
  have hnx_H10 : H10.next = H6.next := hW11.1
  have hlt_n1 : n1 < H10.next := by omega
  have hlt_n5 : n5 < H10.next := by omega
  refine O_nil ?_
  refine C_seq ?_
  refine C_region ?_
  refine O_p (.p (some (n1, 2))) (r_iarr' rfl rfl rfl rfl) ?_
  refine O_p (.i .u64 c) (r_ld rfl hW11.2.1 rfl) ?_
  refine O_p (.p (some (n1, 3))) (r_iarr' rfl rfl rfl rfl) ?_
  refine O_p (.i .u64 d) (r_ld rfl hW11.2.1 rfl) ?_
  refine O_p (.i .u64 (IntKind.u64.wrap (c + d))) (r_bin rfl rfl rfl) ?_
  refine O_p (.p (some (n1, 2))) (r_iarr' rfl rfl rfl rfl) ?_
  refine O_store (vs := [(.i .u64 (IntKind.u64.wrap (c + d)))]) (c' := [(.i .u64 (IntKind.u64.wrap (a + b))), (.i .u64 b), (.i .u64 (IntKind.u64.wrap (c + d))), (.i .u64 d)]) rfl (by rfl) hW11.2.1 rfl (List.cons_ne_nil _ _) (Nat.le_of_ble_eq_true rfl) rfl fun H13 hW14 => ?_
  have hb15 := (hW14.2.2 _ (by omega)).trans hb12
  have hnx_H13 : H13.next = H10.next := hW14.1
  have hlt_n1 : n1 < H13.next := by omega
  have hlt_n5 : n5 < H13.next := by omega
  refine O_nil ?_
  refine C_seq ?_
  refine C_draw fun b16 H17 hbase18 hA19 => ?_
  have hnx20 : H17.next = H13.next + 8 := hA19.1
  have hb21 := (hA19.2 _).trans hW14.2.1
  have hb22 := (hA19.2 _).trans hb15
  have hF23 := hA19.fr (fun _ => False)
  have hlt_n1 : n1 < H17.next := by omega
  have hlt_n5 : n5 < H17.next := by omega
  refine D_l (v := (.p (some (n1, 1)))) rfl rfl rfl (r_iarr' rfl rfl rfl rfl) ?_
  refine D_l (v := (.p (some (n1, 0)))) rfl rfl rfl (r_iarr' rfl rfl rfl rfl) ?_
  refine D_r (v := (.i .u64 b)) rfl rfl rfl (r_ld rfl hb21 rfl) ?_
  refine D_r (v := (.i .u64 (IntKind.u64.wrap (a + b)))) rfl rfl rfl (r_ld rfl hb21 rfl) ?_
  refine D_call (Ev_sp (v := (.i .u64 (rotI b 13))) rfl rfl ?_)
  refine And.intro (And.intro (Or.inr (look_run rfl rfl (r_ld rfl hb21 rfl))) (And.intro (Or.inl rfl) True.intro)) ?_
  refine D_l (v := (.i .u64 (IntKind.u64.wrap ((BitVec.ofInt 64 (rotI b 13) ^^^ BitVec.ofInt 64 (IntKind.u64.wrap (a + b))).toNat : Int)))) rfl rfl rfl (r_bin rfl rfl rfl) ?_
  refine D_l (v := (.p (some (n1, 1)))) rfl rfl rfl (r_iarr' rfl rfl rfl rfl) ?_
  refine D_store (vs := [(.i .u64 (IntKind.u64.wrap ((BitVec.ofInt 64 (rotI b 13) ^^^ BitVec.ofInt 64 (IntKind.u64.wrap (a + b))).toNat : Int)))]) (c' := [(.i .u64 (IntKind.u64.wrap (a + b))), (.i .u64 (IntKind.u64.wrap ((BitVec.ofInt 64 (rotI b 13) ^^^ BitVec.ofInt 64 (IntKind.u64.wrap (a + b))).toNat : Int))), (.i .u64 (IntKind.u64.wrap (c + d))), (.i .u64 d)]) rfl (by rfl) hb21 rfl (List.cons_ne_nil _ _) (Nat.le_of_ble_eq_true rfl) rfl fun H24 hW25 => ?_
  have hb26 := (hW25.2.2 _ (by omega)).trans hb22
  have hnx_H24 : H24.next = H17.next := hW25.1
  have hlt_n1 : n1 < H24.next := by omega
  have hlt_n5 : n5 < H24.next := by omega
  refine And.intro (And.intro (Or.inl rfl) True.intro) ?_
  refine D_nil ?_
  refine C_seq ?_
  refine C_draw fun b27 H28 hbase29 hA30 => ?_
  have hnx31 : H28.next = H24.next + 8 := hA30.1
  have hb32 := (hA30.2 _).trans hW25.2.1
  have hb33 := (hA30.2 _).trans hb26
  have hF34 := hA30.fr (fun _ => False)
  have hlt_n1 : n1 < H28.next := by omega
  have hlt_n5 : n5 < H28.next := by omega
  refine D_l (v := (.p (some (n1, 3)))) rfl rfl rfl (r_iarr' rfl rfl rfl rfl) ?_
  refine D_l (v := (.p (some (n1, 2)))) rfl rfl rfl (r_iarr' rfl rfl rfl rfl) ?_
  refine D_r (v := (.i .u64 d)) rfl rfl rfl (r_ld rfl hb32 rfl) ?_
  refine D_r (v := (.i .u64 (IntKind.u64.wrap (c + d)))) rfl rfl rfl (r_ld rfl hb32 rfl) ?_
  refine D_call (Ev_sp (v := (.i .u64 (rotI d 16))) rfl rfl ?_)
  refine And.intro (And.intro (Or.inr (look_run rfl rfl (r_ld rfl hb32 rfl))) (And.intro (Or.inl rfl) True.intro)) ?_
  refine D_l (v := (.i .u64 (IntKind.u64.wrap ((BitVec.ofInt 64 (rotI d 16) ^^^ BitVec.ofInt 64 (IntKind.u64.wrap (c + d))).toNat : Int)))) rfl rfl rfl (r_bin rfl rfl rfl) ?_
  refine D_l (v := (.p (some (n1, 3)))) rfl rfl rfl (r_iarr' rfl rfl rfl rfl) ?_
  refine D_store (vs := [(.i .u64 (IntKind.u64.wrap ((BitVec.ofInt 64 (rotI d 16) ^^^ BitVec.ofInt 64 (IntKind.u64.wrap (c + d))).toNat : Int)))]) (c' := [(.i .u64 (IntKind.u64.wrap (a + b))), (.i .u64 (IntKind.u64.wrap ((BitVec.ofInt 64 (rotI b 13) ^^^ BitVec.ofInt 64 (IntKind.u64.wrap (a + b))).toNat : Int))), (.i .u64 (IntKind.u64.wrap (c + d))), (.i .u64 (IntKind.u64.wrap ((BitVec.ofInt 64 (rotI d 16) ^^^ BitVec.ofInt 64 (IntKind.u64.wrap (c + d))).toNat : Int)))]) rfl (by rfl) hb32 rfl (List.cons_ne_nil _ _) (Nat.le_of_ble_eq_true rfl) rfl fun H35 hW36 => ?_
  have hb37 := (hW36.2.2 _ (by omega)).trans hb33
  have hnx_H35 : H35.next = H28.next := hW36.1
  have hlt_n1 : n1 < H35.next := by omega
  have hlt_n5 : n5 < H35.next := by omega
  refine And.intro (And.intro (Or.inl rfl) True.intro) ?_
  refine D_nil ?_
  refine C_seq ?_
  refine C_draw fun b38 H39 hbase40 hA41 => ?_
  have hnx42 : H39.next = H35.next + 8 := hA41.1
  have hb43 := (hA41.2 _).trans hW36.2.1
  have hb44 := (hA41.2 _).trans hb37
  have hF45 := hA41.fr (fun _ => False)
  have hlt_n1 : n1 < H39.next := by omega
  have hlt_n5 : n5 < H39.next := by omega
  refine D_l (v := (.p (some (n1, 0)))) rfl rfl rfl (r_iarr' rfl rfl rfl rfl) ?_
  refine D_l (v := (.p (some (n1, 3)))) rfl rfl rfl (r_iarr' rfl rfl rfl rfl) ?_
  refine D_r (v := (.i .u64 (IntKind.u64.wrap (a + b)))) rfl rfl rfl (r_ld rfl hb43 rfl) ?_
  refine D_r (v := (.i .u64 (IntKind.u64.wrap ((BitVec.ofInt 64 (rotI d 16) ^^^ BitVec.ofInt 64 (IntKind.u64.wrap (c + d))).toNat : Int)))) rfl rfl rfl (r_ld rfl hb43 rfl) ?_
  refine D_call (Ev_sp (v := (.i .u64 (rotI (IntKind.u64.wrap (a + b)) 32))) rfl rfl ?_)
  refine And.intro (And.intro (Or.inr (look_run rfl rfl (r_ld rfl hb43 rfl))) (And.intro (Or.inl rfl) True.intro)) ?_
  refine D_l (v := (.i .u64 (IntKind.u64.wrap ((rotI (IntKind.u64.wrap (a + b)) 32) + (IntKind.u64.wrap ((BitVec.ofInt 64 (rotI d 16) ^^^ BitVec.ofInt 64 (IntKind.u64.wrap (c + d))).toNat : Int)))))) rfl rfl rfl (r_bin rfl rfl rfl) ?_
  refine D_l (v := (.p (some (n1, 0)))) rfl rfl rfl (r_iarr' rfl rfl rfl rfl) ?_
  refine D_store (vs := [(.i .u64 (IntKind.u64.wrap ((rotI (IntKind.u64.wrap (a + b)) 32) + (IntKind.u64.wrap ((BitVec.ofInt 64 (rotI d 16) ^^^ BitVec.ofInt 64 (IntKind.u64.wrap (c + d))).toNat : Int)))))]) (c' := [(.i .u64 (IntKind.u64.wrap ((rotI (IntKind.u64.wrap (a + b)) 32) + (IntKind.u64.wrap ((BitVec.ofInt 64 (rotI d 16) ^^^ BitVec.ofInt 64 (IntKind.u64.wrap (c + d))).toNat : Int))))), (.i .u64 (IntKind.u64.wrap ((BitVec.ofInt 64 (rotI b 13) ^^^ BitVec.ofInt 64 (IntKind.u64.wrap (a + b))).toNat : Int))), (.i .u64 (IntKind.u64.wrap (c + d))), (.i .u64 (IntKind.u64.wrap ((BitVec.ofInt 64 (rotI d 16) ^^^ BitVec.ofInt 64 (IntKind.u64.wrap (c + d))).toNat : Int)))]) rfl (by rfl) hb43 rfl (List.cons_ne_nil _ _) (Nat.le_of_ble_eq_true rfl) rfl fun H46 hW47 => ?_
  have hb48 := (hW47.2.2 _ (by omega)).trans hb44
  have hnx_H46 : H46.next = H39.next := hW47.1
  have hlt_n1 : n1 < H46.next := by omega
  have hlt_n5 : n5 < H46.next := by omega
  refine And.intro (And.intro (Or.inl rfl) True.intro) ?_
  refine D_nil ?_
  refine C_seq ?_
  refine C_region ?_
  refine O_p (.p (some (n1, 2))) (r_iarr' rfl rfl rfl rfl) ?_
  refine O_p (.i .u64 (IntKind.u64.wrap (c + d))) (r_ld rfl hW47.2.1 rfl) ?_
  refine O_p (.p (some (n1, 1))) (r_iarr' rfl rfl rfl rfl) ?_
  refine O_p (.i .u64 (IntKind.u64.wrap ((BitVec.ofInt 64 (rotI b 13) ^^^ BitVec.ofInt 64 (IntKind.u64.wrap (a + b))).toNat : Int))) (r_ld rfl hW47.2.1 rfl) ?_
  refine O_p (.i .u64 (IntKind.u64.wrap ((IntKind.u64.wrap (c + d)) + (IntKind.u64.wrap ((BitVec.ofInt 64 (rotI b 13) ^^^ BitVec.ofInt 64 (IntKind.u64.wrap (a + b))).toNat : Int))))) (r_bin rfl rfl rfl) ?_
  refine O_p (.p (some (n1, 2))) (r_iarr' rfl rfl rfl rfl) ?_
  refine O_store (vs := [(.i .u64 (IntKind.u64.wrap ((IntKind.u64.wrap (c + d)) + (IntKind.u64.wrap ((BitVec.ofInt 64 (rotI b 13) ^^^ BitVec.ofInt 64 (IntKind.u64.wrap (a + b))).toNat : Int)))))]) (c' := [(.i .u64 (IntKind.u64.wrap ((rotI (IntKind.u64.wrap (a + b)) 32) + (IntKind.u64.wrap ((BitVec.ofInt 64 (rotI d 16) ^^^ BitVec.ofInt 64 (IntKind.u64.wrap (c + d))).toNat : Int))))), (.i .u64 (IntKind.u64.wrap ((BitVec.ofInt 64 (rotI b 13) ^^^ BitVec.ofInt 64 (IntKind.u64.wrap (a + b))).toNat : Int))), (.i .u64 (IntKind.u64.wrap ((IntKind.u64.wrap (c + d)) + (IntKind.u64.wrap ((BitVec.ofInt 64 (rotI b 13) ^^^ BitVec.ofInt 64 (IntKind.u64.wrap (a + b))).toNat : Int))))), (.i .u64 (IntKind.u64.wrap ((BitVec.ofInt 64 (rotI d 16) ^^^ BitVec.ofInt 64 (IntKind.u64.wrap (c + d))).toNat : Int)))]) rfl (by rfl) hW47.2.1 rfl (List.cons_ne_nil _ _) (Nat.le_of_ble_eq_true rfl) rfl fun H49 hW50 => ?_
  have hb51 := (hW50.2.2 _ (by omega)).trans hb48
  have hnx_H49 : H49.next = H46.next := hW50.1
  have hlt_n1 : n1 < H49.next := by omega
  have hlt_n5 : n5 < H49.next := by omega
  refine O_nil ?_
  refine C_seq ?_
  refine C_draw fun b52 H53 hbase54 hA55 => ?_
  have hnx56 : H53.next = H49.next + 8 := hA55.1
  have hb57 := (hA55.2 _).trans hW50.2.1
  have hb58 := (hA55.2 _).trans hb51
  have hF59 := hA55.fr (fun _ => False)
  have hlt_n1 : n1 < H53.next := by omega
  have hlt_n5 : n5 < H53.next := by omega
  refine D_l (v := (.p (some (n1, 3)))) rfl rfl rfl (r_iarr' rfl rfl rfl rfl) ?_
  refine D_l (v := (.p (some (n1, 0)))) rfl rfl rfl (r_iarr' rfl rfl rfl rfl) ?_
  refine D_r (v := (.i .u64 (IntKind.u64.wrap ((BitVec.ofInt 64 (rotI d 16) ^^^ BitVec.ofInt 64 (IntKind.u64.wrap (c + d))).toNat : Int)))) rfl rfl rfl (r_ld rfl hb57 rfl) ?_
  refine D_r (v := (.i .u64 (IntKind.u64.wrap ((rotI (IntKind.u64.wrap (a + b)) 32) + (IntKind.u64.wrap ((BitVec.ofInt 64 (rotI d 16) ^^^ BitVec.ofInt 64 (IntKind.u64.wrap (c + d))).toNat : Int)))))) rfl rfl rfl (r_ld rfl hb57 rfl) ?_
  refine D_call (Ev_sp (v := (.i .u64 (rotI (IntKind.u64.wrap ((BitVec.ofInt 64 (rotI d 16) ^^^ BitVec.ofInt 64 (IntKind.u64.wrap (c + d))).toNat : Int)) 21))) rfl rfl ?_)
  refine And.intro (And.intro (Or.inr (look_run rfl rfl (r_ld rfl hb57 rfl))) (And.intro (Or.inl rfl) True.intro)) ?_
  refine D_l (v := (.i .u64 (IntKind.u64.wrap ((BitVec.ofInt 64 (rotI (IntKind.u64.wrap ((BitVec.ofInt 64 (rotI d 16) ^^^ BitVec.ofInt 64 (IntKind.u64.wrap (c + d))).toNat : Int)) 21) ^^^ BitVec.ofInt 64 (IntKind.u64.wrap ((rotI (IntKind.u64.wrap (a + b)) 32) + (IntKind.u64.wrap ((BitVec.ofInt 64 (rotI d 16) ^^^ BitVec.ofInt 64 (IntKind.u64.wrap (c + d))).toNat : Int))))).toNat : Int)))) rfl rfl rfl (r_bin rfl rfl rfl) ?_
  refine D_l (v := (.p (some (n1, 3)))) rfl rfl rfl (r_iarr' rfl rfl rfl rfl) ?_
  refine D_store (vs := [(.i .u64 (IntKind.u64.wrap ((BitVec.ofInt 64 (rotI (IntKind.u64.wrap ((BitVec.ofInt 64 (rotI d 16) ^^^ BitVec.ofInt 64 (IntKind.u64.wrap (c + d))).toNat : Int)) 21) ^^^ BitVec.ofInt 64 (IntKind.u64.wrap ((rotI (IntKind.u64.wrap (a + b)) 32) + (IntKind.u64.wrap ((BitVec.ofInt 64 (rotI d 16) ^^^ BitVec.ofInt 64 (IntKind.u64.wrap (c + d))).toNat : Int))))).toNat : Int)))]) (c' := [(.i .u64 (IntKind.u64.wrap ((rotI (IntKind.u64.wrap (a + b)) 32) + (IntKind.u64.wrap ((BitVec.ofInt 64 (rotI d 16) ^^^ BitVec.ofInt 64 (IntKind.u64.wrap (c + d))).toNat : Int))))), (.i .u64 (IntKind.u64.wrap ((BitVec.ofInt 64 (rotI b 13) ^^^ BitVec.ofInt 64 (IntKind.u64.wrap (a + b))).toNat : Int))), (.i .u64 (IntKind.u64.wrap ((IntKind.u64.wrap (c + d)) + (IntKind.u64.wrap ((BitVec.ofInt 64 (rotI b 13) ^^^ BitVec.ofInt 64 (IntKind.u64.wrap (a + b))).toNat : Int))))), (.i .u64 (IntKind.u64.wrap ((BitVec.ofInt 64 (rotI (IntKind.u64.wrap ((BitVec.ofInt 64 (rotI d 16) ^^^ BitVec.ofInt 64 (IntKind.u64.wrap (c + d))).toNat : Int)) 21) ^^^ BitVec.ofInt 64 (IntKind.u64.wrap ((rotI (IntKind.u64.wrap (a + b)) 32) + (IntKind.u64.wrap ((BitVec.ofInt 64 (rotI d 16) ^^^ BitVec.ofInt 64 (IntKind.u64.wrap (c + d))).toNat : Int))))).toNat : Int)))]) rfl (by rfl) hb57 rfl (List.cons_ne_nil _ _) (Nat.le_of_ble_eq_true rfl) rfl fun H60 hW61 => ?_
  have hb62 := (hW61.2.2 _ (by omega)).trans hb58
  have hnx_H60 : H60.next = H53.next := hW61.1
  have hlt_n1 : n1 < H60.next := by omega
  have hlt_n5 : n5 < H60.next := by omega
  refine And.intro (And.intro (Or.inl rfl) True.intro) ?_
  refine D_nil ?_
  refine C_seq ?_
  refine C_draw fun b63 H64 hbase65 hA66 => ?_
  have hnx67 : H64.next = H60.next + 8 := hA66.1
  have hb68 := (hA66.2 _).trans hW61.2.1
  have hb69 := (hA66.2 _).trans hb62
  have hF70 := hA66.fr (fun _ => False)
  have hlt_n1 : n1 < H64.next := by omega
  have hlt_n5 : n5 < H64.next := by omega
  refine D_l (v := (.p (some (n1, 1)))) rfl rfl rfl (r_iarr' rfl rfl rfl rfl) ?_
  refine D_l (v := (.p (some (n1, 2)))) rfl rfl rfl (r_iarr' rfl rfl rfl rfl) ?_
  refine D_r (v := (.i .u64 (IntKind.u64.wrap ((BitVec.ofInt 64 (rotI b 13) ^^^ BitVec.ofInt 64 (IntKind.u64.wrap (a + b))).toNat : Int)))) rfl rfl rfl (r_ld rfl hb68 rfl) ?_
  refine D_r (v := (.i .u64 (IntKind.u64.wrap ((IntKind.u64.wrap (c + d)) + (IntKind.u64.wrap ((BitVec.ofInt 64 (rotI b 13) ^^^ BitVec.ofInt 64 (IntKind.u64.wrap (a + b))).toNat : Int)))))) rfl rfl rfl (r_ld rfl hb68 rfl) ?_
  refine D_call (Ev_sp (v := (.i .u64 (rotI (IntKind.u64.wrap ((BitVec.ofInt 64 (rotI b 13) ^^^ BitVec.ofInt 64 (IntKind.u64.wrap (a + b))).toNat : Int)) 17))) rfl rfl ?_)
  refine And.intro (And.intro (Or.inr (look_run rfl rfl (r_ld rfl hb68 rfl))) (And.intro (Or.inl rfl) True.intro)) ?_
  refine D_l (v := (.i .u64 (IntKind.u64.wrap ((BitVec.ofInt 64 (rotI (IntKind.u64.wrap ((BitVec.ofInt 64 (rotI b 13) ^^^ BitVec.ofInt 64 (IntKind.u64.wrap (a + b))).toNat : Int)) 17) ^^^ BitVec.ofInt 64 (IntKind.u64.wrap ((IntKind.u64.wrap (c + d)) + (IntKind.u64.wrap ((BitVec.ofInt 64 (rotI b 13) ^^^ BitVec.ofInt 64 (IntKind.u64.wrap (a + b))).toNat : Int))))).toNat : Int)))) rfl rfl rfl (r_bin rfl rfl rfl) ?_
  refine D_l (v := (.p (some (n1, 1)))) rfl rfl rfl (r_iarr' rfl rfl rfl rfl) ?_
  refine D_store (vs := [(.i .u64 (IntKind.u64.wrap ((BitVec.ofInt 64 (rotI (IntKind.u64.wrap ((BitVec.ofInt 64 (rotI b 13) ^^^ BitVec.ofInt 64 (IntKind.u64.wrap (a + b))).toNat : Int)) 17) ^^^ BitVec.ofInt 64 (IntKind.u64.wrap ((IntKind.u64.wrap (c + d)) + (IntKind.u64.wrap ((BitVec.ofInt 64 (rotI b 13) ^^^ BitVec.ofInt 64 (IntKind.u64.wrap (a + b))).toNat : Int))))).toNat : Int)))]) (c' := [(.i .u64 (IntKind.u64.wrap ((rotI (IntKind.u64.wrap (a + b)) 32) + (IntKind.u64.wrap ((BitVec.ofInt 64 (rotI d 16) ^^^ BitVec.ofInt 64 (IntKind.u64.wrap (c + d))).toNat : Int))))), (.i .u64 (IntKind.u64.wrap ((BitVec.ofInt 64 (rotI (IntKind.u64.wrap ((BitVec.ofInt 64 (rotI b 13) ^^^ BitVec.ofInt 64 (IntKind.u64.wrap (a + b))).toNat : Int)) 17) ^^^ BitVec.ofInt 64 (IntKind.u64.wrap ((IntKind.u64.wrap (c + d)) + (IntKind.u64.wrap ((BitVec.ofInt 64 (rotI b 13) ^^^ BitVec.ofInt 64 (IntKind.u64.wrap (a + b))).toNat : Int))))).toNat : Int))), (.i .u64 (IntKind.u64.wrap ((IntKind.u64.wrap (c + d)) + (IntKind.u64.wrap ((BitVec.ofInt 64 (rotI b 13) ^^^ BitVec.ofInt 64 (IntKind.u64.wrap (a + b))).toNat : Int))))), (.i .u64 (IntKind.u64.wrap ((BitVec.ofInt 64 (rotI (IntKind.u64.wrap ((BitVec.ofInt 64 (rotI d 16) ^^^ BitVec.ofInt 64 (IntKind.u64.wrap (c + d))).toNat : Int)) 21) ^^^ BitVec.ofInt 64 (IntKind.u64.wrap ((rotI (IntKind.u64.wrap (a + b)) 32) + (IntKind.u64.wrap ((BitVec.ofInt 64 (rotI d 16) ^^^ BitVec.ofInt 64 (IntKind.u64.wrap (c + d))).toNat : Int))))).toNat : Int)))]) rfl (by rfl) hb68 rfl (List.cons_ne_nil _ _) (Nat.le_of_ble_eq_true rfl) rfl fun H71 hW72 => ?_
  have hb73 := (hW72.2.2 _ (by omega)).trans hb69
  have hnx_H71 : H71.next = H64.next := hW72.1
  have hlt_n1 : n1 < H71.next := by omega
  have hlt_n5 : n5 < H71.next := by omega
  refine And.intro (And.intro (Or.inl rfl) True.intro) ?_
  refine D_nil ?_
  refine C_seq ?_
  refine C_region ?_
  refine O_p (.p (some (n1, 2))) (r_iarr' rfl rfl rfl rfl) ?_
  refine O_p (.i .u64 (IntKind.u64.wrap ((IntKind.u64.wrap (c + d)) + (IntKind.u64.wrap ((BitVec.ofInt 64 (rotI b 13) ^^^ BitVec.ofInt 64 (IntKind.u64.wrap (a + b))).toNat : Int))))) (r_ld rfl hW72.2.1 rfl) ?_
  refine O_call (Ev_sp (v := (.i .u64 (rotI (IntKind.u64.wrap ((IntKind.u64.wrap (c + d)) + (IntKind.u64.wrap ((BitVec.ofInt 64 (rotI b 13) ^^^ BitVec.ofInt 64 (IntKind.u64.wrap (a + b))).toNat : Int)))) 32))) rfl rfl ?_)
  refine O_p (.p (some (n1, 2))) (r_iarr' rfl rfl rfl rfl) ?_
  refine O_store (vs := [(.i .u64 (rotI (IntKind.u64.wrap ((IntKind.u64.wrap (c + d)) + (IntKind.u64.wrap ((BitVec.ofInt 64 (rotI b 13) ^^^ BitVec.ofInt 64 (IntKind.u64.wrap (a + b))).toNat : Int)))) 32))]) (c' := [(.i .u64 (IntKind.u64.wrap ((rotI (IntKind.u64.wrap (a + b)) 32) + (IntKind.u64.wrap ((BitVec.ofInt 64 (rotI d 16) ^^^ BitVec.ofInt 64 (IntKind.u64.wrap (c + d))).toNat : Int))))), (.i .u64 (IntKind.u64.wrap ((BitVec.ofInt 64 (rotI (IntKind.u64.wrap ((BitVec.ofInt 64 (rotI b 13) ^^^ BitVec.ofInt 64 (IntKind.u64.wrap (a + b))).toNat : Int)) 17) ^^^ BitVec.ofInt 64 (IntKind.u64.wrap ((IntKind.u64.wrap (c + d)) + (IntKind.u64.wrap ((BitVec.ofInt 64 (rotI b 13) ^^^ BitVec.ofInt 64 (IntKind.u64.wrap (a + b))).toNat : Int))))).toNat : Int))), (.i .u64 (rotI (IntKind.u64.wrap ((IntKind.u64.wrap (c + d)) + (IntKind.u64.wrap ((BitVec.ofInt 64 (rotI b 13) ^^^ BitVec.ofInt 64 (IntKind.u64.wrap (a + b))).toNat : Int)))) 32)), (.i .u64 (IntKind.u64.wrap ((BitVec.ofInt 64 (rotI (IntKind.u64.wrap ((BitVec.ofInt 64 (rotI d 16) ^^^ BitVec.ofInt 64 (IntKind.u64.wrap (c + d))).toNat : Int)) 21) ^^^ BitVec.ofInt 64 (IntKind.u64.wrap ((rotI (IntKind.u64.wrap (a + b)) 32) + (IntKind.u64.wrap ((BitVec.ofInt 64 (rotI d 16) ^^^ BitVec.ofInt 64 (IntKind.u64.wrap (c + d))).toNat : Int))))).toNat : Int)))]) rfl (by rfl) hW72.2.1 rfl (List.cons_ne_nil _ _) (Nat.le_of_ble_eq_true rfl) rfl fun H74 hW75 => ?_
  have hb76 := (hW75.2.2 _ (by omega)).trans hb73
  have hnx_H74 : H74.next = H71.next := hW75.1
  have hlt_n1 : n1 < H74.next := by omega
  have hlt_n5 : n5 < H74.next := by omega
  refine O_nil ?_
  refine C_seq ?_
  refine C_region ?_
  refine O_p (.agg [(.i .u64 (IntKind.u64.wrap ((rotI (IntKind.u64.wrap (a + b)) 32) + (IntKind.u64.wrap ((BitVec.ofInt 64 (rotI d 16) ^^^ BitVec.ofInt 64 (IntKind.u64.wrap (c + d))).toNat : Int))))), (.i .u64 (IntKind.u64.wrap ((BitVec.ofInt 64 (rotI (IntKind.u64.wrap ((BitVec.ofInt 64 (rotI b 13) ^^^ BitVec.ofInt 64 (IntKind.u64.wrap (a + b))).toNat : Int)) 17) ^^^ BitVec.ofInt 64 (IntKind.u64.wrap ((IntKind.u64.wrap (c + d)) + (IntKind.u64.wrap ((BitVec.ofInt 64 (rotI b 13) ^^^ BitVec.ofInt 64 (IntKind.u64.wrap (a + b))).toNat : Int))))).toNat : Int))), (.i .u64 (rotI (IntKind.u64.wrap ((IntKind.u64.wrap (c + d)) + (IntKind.u64.wrap ((BitVec.ofInt 64 (rotI b 13) ^^^ BitVec.ofInt 64 (IntKind.u64.wrap (a + b))).toNat : Int)))) 32)), (.i .u64 (IntKind.u64.wrap ((BitVec.ofInt 64 (rotI (IntKind.u64.wrap ((BitVec.ofInt 64 (rotI d 16) ^^^ BitVec.ofInt 64 (IntKind.u64.wrap (c + d))).toNat : Int)) 21) ^^^ BitVec.ofInt 64 (IntKind.u64.wrap ((rotI (IntKind.u64.wrap (a + b)) 32) + (IntKind.u64.wrap ((BitVec.ofInt 64 (rotI d 16) ^^^ BitVec.ofInt 64 (IntKind.u64.wrap (c + d))).toNat : Int))))).toNat : Int)))]) (r_ldA rfl hW75.2.1 rfl) ?_
  refine O_store (vs := [(.i .u64 (IntKind.u64.wrap ((rotI (IntKind.u64.wrap (a + b)) 32) + (IntKind.u64.wrap ((BitVec.ofInt 64 (rotI d 16) ^^^ BitVec.ofInt 64 (IntKind.u64.wrap (c + d))).toNat : Int))))), (.i .u64 (IntKind.u64.wrap ((BitVec.ofInt 64 (rotI (IntKind.u64.wrap ((BitVec.ofInt 64 (rotI b 13) ^^^ BitVec.ofInt 64 (IntKind.u64.wrap (a + b))).toNat : Int)) 17) ^^^ BitVec.ofInt 64 (IntKind.u64.wrap ((IntKind.u64.wrap (c + d)) + (IntKind.u64.wrap ((BitVec.ofInt 64 (rotI b 13) ^^^ BitVec.ofInt 64 (IntKind.u64.wrap (a + b))).toNat : Int))))).toNat : Int))), (.i .u64 (rotI (IntKind.u64.wrap ((IntKind.u64.wrap (c + d)) + (IntKind.u64.wrap ((BitVec.ofInt 64 (rotI b 13) ^^^ BitVec.ofInt 64 (IntKind.u64.wrap (a + b))).toNat : Int)))) 32)), (.i .u64 (IntKind.u64.wrap ((BitVec.ofInt 64 (rotI (IntKind.u64.wrap ((BitVec.ofInt 64 (rotI d 16) ^^^ BitVec.ofInt 64 (IntKind.u64.wrap (c + d))).toNat : Int)) 21) ^^^ BitVec.ofInt 64 (IntKind.u64.wrap ((rotI (IntKind.u64.wrap (a + b)) 32) + (IntKind.u64.wrap ((BitVec.ofInt 64 (rotI d 16) ^^^ BitVec.ofInt 64 (IntKind.u64.wrap (c + d))).toNat : Int))))).toNat : Int)))]) (c' := [(.i .u64 (IntKind.u64.wrap ((rotI (IntKind.u64.wrap (a + b)) 32) + (IntKind.u64.wrap ((BitVec.ofInt 64 (rotI d 16) ^^^ BitVec.ofInt 64 (IntKind.u64.wrap (c + d))).toNat : Int))))), (.i .u64 (IntKind.u64.wrap ((BitVec.ofInt 64 (rotI (IntKind.u64.wrap ((BitVec.ofInt 64 (rotI b 13) ^^^ BitVec.ofInt 64 (IntKind.u64.wrap (a + b))).toNat : Int)) 17) ^^^ BitVec.ofInt 64 (IntKind.u64.wrap ((IntKind.u64.wrap (c + d)) + (IntKind.u64.wrap ((BitVec.ofInt 64 (rotI b 13) ^^^ BitVec.ofInt 64 (IntKind.u64.wrap (a + b))).toNat : Int))))).toNat : Int))), (.i .u64 (rotI (IntKind.u64.wrap ((IntKind.u64.wrap (c + d)) + (IntKind.u64.wrap ((BitVec.ofInt 64 (rotI b 13) ^^^ BitVec.ofInt 64 (IntKind.u64.wrap (a + b))).toNat : Int)))) 32)), (.i .u64 (IntKind.u64.wrap ((BitVec.ofInt 64 (rotI (IntKind.u64.wrap ((BitVec.ofInt 64 (rotI d 16) ^^^ BitVec.ofInt 64 (IntKind.u64.wrap (c + d))).toNat : Int)) 21) ^^^ BitVec.ofInt 64 (IntKind.u64.wrap ((rotI (IntKind.u64.wrap (a + b)) 32) + (IntKind.u64.wrap ((BitVec.ofInt 64 (rotI d 16) ^^^ BitVec.ofInt 64 (IntKind.u64.wrap (c + d))).toNat : Int))))).toNat : Int)))]) rfl (by rfl) hb76 rfl (List.cons_ne_nil _ _) (Nat.le_of_ble_eq_true rfl) rfl fun H77 hW78 => ?_
  have hb79 := (hW78.2.2 _ (by omega)).trans hW75.2.1
  have hnx_H77 : H77.next = H74.next := hW78.1
  have hlt_n1 : n1 < H77.next := by omega
  have hlt_n5 : n5 < H77.next := by omega
  refine O_nil ?_
  refine C_ret ?_
  exact ⟨.inr rfl, _, resL_one (r_cellA (cs := [(.i .u64 (IntKind.u64.wrap ((rotI (IntKind.u64.wrap (a + b)) 32) + (IntKind.u64.wrap ((BitVec.ofInt 64 (rotI d 16) ^^^ BitVec.ofInt 64 (IntKind.u64.wrap (c + d))).toNat : Int))))), (.i .u64 (IntKind.u64.wrap ((BitVec.ofInt 64 (rotI (IntKind.u64.wrap ((BitVec.ofInt 64 (rotI b 13) ^^^ BitVec.ofInt 64 (IntKind.u64.wrap (a + b))).toNat : Int)) 17) ^^^ BitVec.ofInt 64 (IntKind.u64.wrap ((IntKind.u64.wrap (c + d)) + (IntKind.u64.wrap ((BitVec.ofInt 64 (rotI b 13) ^^^ BitVec.ofInt 64 (IntKind.u64.wrap (a + b))).toNat : Int))))).toNat : Int))), (.i .u64 (rotI (IntKind.u64.wrap ((IntKind.u64.wrap (c + d)) + (IntKind.u64.wrap ((BitVec.ofInt 64 (rotI b 13) ^^^ BitVec.ofInt 64 (IntKind.u64.wrap (a + b))).toNat : Int)))) 32)), (.i .u64 (IntKind.u64.wrap ((BitVec.ofInt 64 (rotI (IntKind.u64.wrap ((BitVec.ofInt 64 (rotI d 16) ^^^ BitVec.ofInt 64 (IntKind.u64.wrap (c + d))).toNat : Int)) 21) ^^^ BitVec.ofInt 64 (IntKind.u64.wrap ((rotI (IntKind.u64.wrap (a + b)) 32) + (IntKind.u64.wrap ((BitVec.ofInt 64 (rotI d 16) ^^^ BitVec.ofInt 64 (IntKind.u64.wrap (c + d))).toNat : Int))))).toNat : Int)))]) rfl hW78.2.1 rfl), rfl⟩
set_option maxRecDepth 100000 in
theorem round9 (a b c d : Int) : (exec tab noSp 100 (.fn (.func 44) [] []) [.i .u64 a, .i .u64 b, .i .u64 c, .i .u64 d] e0).map (·.1) = some (.tup (quad (rnd a b c d))) := by kernel_rfl
def f8 : List AV → Option AV
  | [.agg [.i .u64 a, .i .u64 b, .i .u64 c, .i .u64 d]] => some (.agg (quad (rnd a b c d)))
  | _ => none
def f9 : List AV → Option AV
  | [.i .u64 a, .i .u64 b, .i .u64 c, .i .u64 d] => some (.tup (quad (rnd a b c d)))
  | _ => none
theorem f8_ok (xs : List AV) (v : AV) (h : f8 xs = some v) : flatVL xs = true ∧ flatV v = true ∧ Ev tab13 sp13 (.fn (.func 36) [] []) xs e0 (fun x _ => x = v) := by
  unfold f8 at h
  split at h
  · simp only [Option.some.injEq] at h; subst h
    exact ⟨rfl, rfl, round8 _ _ _ _⟩
  · cases h
theorem f9_ok (xs : List AV) (v : AV) (h : f9 xs = some v) : flatVL xs = true ∧ flatV v = true ∧ Ev tab noSp (.fn (.func 44) [] []) xs e0 (fun x _ => x = v) := by
  unfold f9 at h
  split at h
  · simp only [Option.some.injEq] at h; subst h
    exact ⟨rfl, rfl, Ev_map 100 (round9 _ _ _ _)⟩
  · cases h
def spR := withPure 44 f9 (withPure 36 f8 noSp)
def tabR := without [36, 44] tab
theorem tabR_ok : TabOK Try.prog tabR := without_ok tab_ok
theorem spR_ok {tab' : Nat → Option XFun} : SpOK Try.prog tab' spR := withPure_ok mixed globals0 tab_ok noSp_ok f9_ok (withPure_ok mixed globals0 tab13_ok sp13_ok f8_ok noSp_ok)
set_option maxRecDepth 100000 in
theorem take16 (a b c d w : Int) : (exec tabR spR 100 (.fn (.func 35) [] []) [.agg [.i .u64 a, .i .u64 b, .i .u64 c, .i .u64 d], .i .u64 w] e0).map (·.1) = some (.agg (quad (tk (a, b, c, d) w))) := by kernel_rfl
def f16 : List AV → Option AV
  | [.agg [.i .u64 a, .i .u64 b, .i .u64 c, .i .u64 d], .i .u64 w] => some (.agg (quad (tk (a, b, c, d) w)))
  | _ => none
theorem f16_ok (xs : List AV) (v : AV) (h : f16 xs = some v) : flatVL xs = true ∧ flatV v = true ∧ Ev tabR spR (.fn (.func 35) [] []) xs e0 (fun x _ => x = v) := by
  unfold f16 at h
  split at h
  · simp only [Option.some.injEq] at h; subst h
    exact ⟨rfl, rfl, Ev_map 100 (take16 _ _ _ _ _)⟩
  · cases h
def tabA := without [36, 44, 35] tab
def spA := withPure 35 f16 (withPure 44 f9 (withPure 36 f8 noSp))
theorem tabA_ok : TabOK Try.prog tabA := without_ok tab_ok
theorem spA_ok : SpOK Try.prog tabA spA := withPure_ok mixed globals0 tabR_ok spR_ok f16_ok (withPure_ok mixed globals0 tab_ok noSp_ok f9_ok (withPure_ok mixed globals0 tab13_ok sp13_ok f8_ok noSp_ok))
end Go.Proofs.Yteapgimihapefaa.E
