/- Chunks' functions, walked. It bears no condition. -/
import Derived.Test.YtadloppgokobeaaC
import Derived.Test.YtadloppgokobeaaE37
namespace Go.Proofs.Ytadloppgokobeaa.E
set_option linter.unusedVariables false
set_option linter.unusedSimpArgs false
theorem follows_ev {H : AH} {R : HL} (x y : Ck) (a0 a1 a2 a3 a4 a5 b0 b1 b2 b3 b4 b5 : AV) (hxf : 0 ≤ x.f ∧ x.f < 256) (hyf : 0 ≤ y.f ∧ y.f < 256) (hxa : 0 ≤ x.a ∧ x.a < 4294967296) (hH0 : Hs H R) : Ev tabA spA (.fn (.func 16) [] []) [.agg [(.i .u8 x.k), (.i .u8 x.f), (.i .u32 x.a), a0, (.i .u16 x.o), (.i .u16 x.i), (.i .u32 x.p), a1, a2, a3, a4, a5], .agg [(.i .u8 y.k), (.i .u8 y.f), (.i .u32 y.a), b0, (.i .u16 y.o), (.i .u16 y.i), (.i .u32 y.p), b1, b2, b3, b4, b5]] H (fun r H' => r = .b (follows x y) ∧ Hs H' R) := by
  refine Ev_C (F := x16) rfl ?_
  refine C_seq ?_
  refine C_region ?_
  refine O_box (z := [(.i .u8 x.k), (.i .u8 x.f), (.i .u32 x.a), a0, (.i .u16 x.o), (.i .u16 x.i), (.i .u32 x.p), a1, a2, a3, a4, a5]) rfl fun n1 H2 hN3 => ?_
  have hH4 := hH0.new hN3
  refine O_box (z := [(.i .u8 y.k), (.i .u8 y.f), (.i .u32 y.a), b0, (.i .u16 y.o), (.i .u16 y.i), (.i .u32 y.p), b1, b2, b3, b4, b5]) rfl fun n5 H6 hN7 => ?_
  have hH8 := hH4.new hN7
  refine O_p (.b false) (r_mv rfl) ?_
  refine O_nil ?_
  refine C_seq ?_
  refine C_region ?_
  refine O_p (.p (some (n1, 0))) (r_fadd' rfl rfl) ?_
  refine O_p (.i .u8 x.k) (r_ld rfl hH8.get1 rfl) ?_
  refine O_p (.b (decide (x.k = 0))) (r_eql rfl rfl) ?_
  refine O_p (.b (decide (x.k = 0))) (r_mv rfl) ?_
  refine O_gx (e := (decide (x.k = 0))) (v := (.p (some (n5, 0)))) (wt rfl) (fun he => (r_fadd' rfl rfl)) ?_
  refine O_gx (e := (decide (x.k = 0))) (v := (.i .u8 y.k)) (wt rfl) (fun he => (r_ld (cond_pos he) hH8.get0 rfl)) ?_
  refine O_gx (e := (decide (x.k = 0))) (v := (.b (decide (y.k = 0)))) (wt rfl) (fun he => (r_eql (cond_pos he) rfl)) ?_
  refine O_p (.b ((decide (x.k = 0)) && (decide (y.k = 0)))) (r_pick_and rfl rfl rfl rfl) ?_
  refine O_p (.b ((decide (x.k = 0)) && (decide (y.k = 0)))) (r_mv rfl) ?_
  refine O_nil ?_
  refine C_seq ?_
  refine C_region ?_
  refine O_p (.p (some (n1, 4))) (r_fadd' rfl rfl) ?_
  refine O_p (.i .u16 x.o) (r_ld rfl hH8.get1 rfl) ?_
  refine O_p (.p (some (n5, 4))) (r_fadd' rfl rfl) ?_
  refine O_p (.i .u16 y.o) (r_ld rfl hH8.get0 rfl) ?_
  refine O_p (.b (decide (x.o = y.o))) (r_eql rfl rfl) ?_
  refine O_p (.b (decide (x.o = y.o))) (r_mv rfl) ?_
  refine O_gx (e := (decide (x.o = y.o))) (v := (.p (some (n1, 5)))) (wt rfl) (fun he => (r_fadd' rfl rfl)) ?_
  refine O_gx (e := (decide (x.o = y.o))) (v := (.i .u16 x.i)) (wt rfl) (fun he => (r_ld (cond_pos he) hH8.get1 rfl)) ?_
  refine O_gx (e := (decide (x.o = y.o))) (v := (.p (some (n5, 5)))) (wt rfl) (fun he => (r_fadd' rfl rfl)) ?_
  refine O_gx (e := (decide (x.o = y.o))) (v := (.i .u16 y.i)) (wt rfl) (fun he => (r_ld (cond_pos he) hH8.get0 rfl)) ?_
  refine O_gx (e := (decide (x.o = y.o))) (v := (.b (decide (x.i = y.i)))) (wt rfl) (fun he => (r_eql (cond_pos he) (cond_pos he))) ?_
  refine O_p (.b ((decide (x.o = y.o)) && (decide (x.i = y.i)))) (r_pick_and rfl rfl rfl rfl) ?_
  refine O_p (.b ((decide (x.o = y.o)) && (decide (x.i = y.i)))) (r_mv rfl) ?_
  refine O_gx (e := ((decide (x.o = y.o)) && (decide (x.i = y.i)))) (v := (.p (some (n1, 6)))) (wt rfl) (fun he => (r_fadd' rfl rfl)) ?_
  refine O_gx (e := ((decide (x.o = y.o)) && (decide (x.i = y.i)))) (v := (.i .u32 x.p)) (wt rfl) (fun he => (r_ld (cond_pos he) hH8.get1 rfl)) ?_
  refine O_gx (e := ((decide (x.o = y.o)) && (decide (x.i = y.i)))) (v := (.p (some (n5, 6)))) (wt rfl) (fun he => (r_fadd' rfl rfl)) ?_
  refine O_gx (e := ((decide (x.o = y.o)) && (decide (x.i = y.i)))) (v := (.i .u32 y.p)) (wt rfl) (fun he => (r_ld (cond_pos he) hH8.get0 rfl)) ?_
  refine O_gx (e := ((decide (x.o = y.o)) && (decide (x.i = y.i)))) (v := (.b (decide (x.p = y.p)))) (wt rfl) (fun he => (r_eql (cond_pos he) (cond_pos he))) ?_
  refine O_p (.b (((decide (x.o = y.o)) && (decide (x.i = y.i))) && (decide (x.p = y.p)))) (r_pick_and rfl rfl rfl rfl) ?_
  refine O_p (.b (((decide (x.o = y.o)) && (decide (x.i = y.i))) && (decide (x.p = y.p)))) (r_mv rfl) ?_
  refine O_gx (e := (((decide (x.o = y.o)) && (decide (x.i = y.i))) && (decide (x.p = y.p)))) (v := (.p (some (n1, 1)))) (wt rfl) (fun he => (r_fadd' rfl rfl)) ?_
  refine O_gx (e := (((decide (x.o = y.o)) && (decide (x.i = y.i))) && (decide (x.p = y.p)))) (v := (.i .u8 x.f)) (wt rfl) (fun he => (r_ld (cond_pos he) hH8.get1 rfl)) ?_
  refine O_gx (e := (((decide (x.o = y.o)) && (decide (x.i = y.i))) && (decide (x.p = y.p)))) (v := (.p (some (n5, 1)))) (wt rfl) (fun he => (r_fadd' rfl rfl)) ?_
  refine O_gx (e := (((decide (x.o = y.o)) && (decide (x.i = y.i))) && (decide (x.p = y.p)))) (v := (.i .u8 y.f)) (wt rfl) (fun he => (r_ld (cond_pos he) hH8.get0 rfl)) ?_
  refine O_gx (e := (((decide (x.o = y.o)) && (decide (x.i = y.i))) && (decide (x.p = y.p)))) (v := (.i .u8 (IntKind.u8.wrap ((BitVec.ofInt 8 x.f ^^^ BitVec.ofInt 8 y.f).toNat : Int)))) (wt rfl) (fun he => (r_bin (cond_pos he) (cond_pos he) rfl)) ?_
  refine O_gx (e := (((decide (x.o = y.o)) && (decide (x.i = y.i))) && (decide (x.p = y.p)))) (v := (.i .u8 (IntKind.u8.wrap ((BitVec.ofInt 8 (IntKind.u8.wrap ((BitVec.ofInt 8 x.f ^^^ BitVec.ofInt 8 y.f).toNat : Int)) &&& BitVec.ofInt 8 4).toNat : Int)))) (wt rfl) (fun he => (r_bin (cond_pos he) rfl rfl)) ?_
  refine O_gx (e := (((decide (x.o = y.o)) && (decide (x.i = y.i))) && (decide (x.p = y.p)))) (v := (.b (decide ((IntKind.u8.wrap ((BitVec.ofInt 8 (IntKind.u8.wrap ((BitVec.ofInt 8 x.f ^^^ BitVec.ofInt 8 y.f).toNat : Int)) &&& BitVec.ofInt 8 4).toNat : Int)) = 0)))) (wt rfl) (fun he => (r_eql (cond_pos he) rfl)) ?_
  refine O_p (.b ((((decide (x.o = y.o)) && (decide (x.i = y.i))) && (decide (x.p = y.p))) && (decide ((IntKind.u8.wrap ((BitVec.ofInt 8 (IntKind.u8.wrap ((BitVec.ofInt 8 x.f ^^^ BitVec.ofInt 8 y.f).toNat : Int)) &&& BitVec.ofInt 8 4).toNat : Int)) = 0)))) (r_pick_and rfl rfl rfl rfl) ?_
  refine O_p (.b ((((decide (x.o = y.o)) && (decide (x.i = y.i))) && (decide (x.p = y.p))) && (decide ((IntKind.u8.wrap ((BitVec.ofInt 8 (IntKind.u8.wrap ((BitVec.ofInt 8 x.f ^^^ BitVec.ofInt 8 y.f).toNat : Int)) &&& BitVec.ofInt 8 4).toNat : Int)) = 0)))) (r_mv rfl) ?_
  refine O_nil ?_
  refine C_seq ?_
  refine C_region ?_
  refine O_p (.b ((decide (x.k = 0)) && (decide (y.k = 0)))) (r_mv rfl) ?_
  refine O_p (.b ((decide (x.k = 0)) && (decide (y.k = 0)))) (r_mv rfl) ?_
  refine O_gx (e := ((decide (x.k = 0)) && (decide (y.k = 0)))) (v := (.b ((((decide (x.o = y.o)) && (decide (x.i = y.i))) && (decide (x.p = y.p))) && (decide ((IntKind.u8.wrap ((BitVec.ofInt 8 (IntKind.u8.wrap ((BitVec.ofInt 8 x.f ^^^ BitVec.ofInt 8 y.f).toNat : Int)) &&& BitVec.ofInt 8 4).toNat : Int)) = 0))))) (wt rfl) (fun he => (r_mv rfl)) ?_
  refine O_p (.b (((decide (x.k = 0)) && (decide (y.k = 0))) && ((((decide (x.o = y.o)) && (decide (x.i = y.i))) && (decide (x.p = y.p))) && (decide ((IntKind.u8.wrap ((BitVec.ofInt 8 (IntKind.u8.wrap ((BitVec.ofInt 8 x.f ^^^ BitVec.ofInt 8 y.f).toNat : Int)) &&& BitVec.ofInt 8 4).toNat : Int)) = 0))))) (r_pick_and rfl rfl rfl rfl) ?_
  refine O_p (.b (((decide (x.k = 0)) && (decide (y.k = 0))) && ((((decide (x.o = y.o)) && (decide (x.i = y.i))) && (decide (x.p = y.p))) && (decide ((IntKind.u8.wrap ((BitVec.ofInt 8 (IntKind.u8.wrap ((BitVec.ofInt 8 x.f ^^^ BitVec.ofInt 8 y.f).toNat : Int)) &&& BitVec.ofInt 8 4).toNat : Int)) = 0))))) (r_mv rfl) ?_
  refine O_gx (e := (((decide (x.k = 0)) && (decide (y.k = 0))) && ((((decide (x.o = y.o)) && (decide (x.i = y.i))) && (decide (x.p = y.p))) && (decide ((IntKind.u8.wrap ((BitVec.ofInt 8 (IntKind.u8.wrap ((BitVec.ofInt 8 x.f ^^^ BitVec.ofInt 8 y.f).toNat : Int)) &&& BitVec.ofInt 8 4).toNat : Int)) = 0))))) (v := (.p (some (n5, 2)))) (wt rfl) (fun he => (r_fadd' rfl rfl)) ?_
  refine O_gx (e := (((decide (x.k = 0)) && (decide (y.k = 0))) && ((((decide (x.o = y.o)) && (decide (x.i = y.i))) && (decide (x.p = y.p))) && (decide ((IntKind.u8.wrap ((BitVec.ofInt 8 (IntKind.u8.wrap ((BitVec.ofInt 8 x.f ^^^ BitVec.ofInt 8 y.f).toNat : Int)) &&& BitVec.ofInt 8 4).toNat : Int)) = 0))))) (v := (.i .u32 y.a)) (wt rfl) (fun he => (r_ld (cond_pos he) hH8.get0 rfl)) ?_
  refine O_gx (e := (((decide (x.k = 0)) && (decide (y.k = 0))) && ((((decide (x.o = y.o)) && (decide (x.i = y.i))) && (decide (x.p = y.p))) && (decide ((IntKind.u8.wrap ((BitVec.ofInt 8 (IntKind.u8.wrap ((BitVec.ofInt 8 x.f ^^^ BitVec.ofInt 8 y.f).toNat : Int)) &&& BitVec.ofInt 8 4).toNat : Int)) = 0))))) (v := (.p (some (n1, 2)))) (wt rfl) (fun he => (r_fadd' rfl rfl)) ?_
  refine O_gx (e := (((decide (x.k = 0)) && (decide (y.k = 0))) && ((((decide (x.o = y.o)) && (decide (x.i = y.i))) && (decide (x.p = y.p))) && (decide ((IntKind.u8.wrap ((BitVec.ofInt 8 (IntKind.u8.wrap ((BitVec.ofInt 8 x.f ^^^ BitVec.ofInt 8 y.f).toNat : Int)) &&& BitVec.ofInt 8 4).toNat : Int)) = 0))))) (v := (.i .u32 x.a)) (wt rfl) (fun he => (r_ld (cond_pos he) hH8.get1 rfl)) ?_
  refine O_gx (e := (((decide (x.k = 0)) && (decide (y.k = 0))) && ((((decide (x.o = y.o)) && (decide (x.i = y.i))) && (decide (x.p = y.p))) && (decide ((IntKind.u8.wrap ((BitVec.ofInt 8 (IntKind.u8.wrap ((BitVec.ofInt 8 x.f ^^^ BitVec.ofInt 8 y.f).toNat : Int)) &&& BitVec.ofInt 8 4).toNat : Int)) = 0))))) (v := (.i .u32 (IntKind.u32.wrap (x.a + 1)))) (wt rfl) (fun he => (r_bin (cond_pos he) rfl rfl)) ?_
  refine O_gx (e := (((decide (x.k = 0)) && (decide (y.k = 0))) && ((((decide (x.o = y.o)) && (decide (x.i = y.i))) && (decide (x.p = y.p))) && (decide ((IntKind.u8.wrap ((BitVec.ofInt 8 (IntKind.u8.wrap ((BitVec.ofInt 8 x.f ^^^ BitVec.ofInt 8 y.f).toNat : Int)) &&& BitVec.ofInt 8 4).toNat : Int)) = 0))))) (v := (.b (decide (y.a = (IntKind.u32.wrap (x.a + 1)))))) (wt rfl) (fun he => (r_eql (cond_pos he) (cond_pos he))) ?_
  refine O_p (.b ((((decide (x.k = 0)) && (decide (y.k = 0))) && ((((decide (x.o = y.o)) && (decide (x.i = y.i))) && (decide (x.p = y.p))) && (decide ((IntKind.u8.wrap ((BitVec.ofInt 8 (IntKind.u8.wrap ((BitVec.ofInt 8 x.f ^^^ BitVec.ofInt 8 y.f).toNat : Int)) &&& BitVec.ofInt 8 4).toNat : Int)) = 0)))) && (decide (y.a = (IntKind.u32.wrap (x.a + 1)))))) (r_pick_and rfl rfl rfl rfl) ?_
  refine O_p (.b ((((decide (x.k = 0)) && (decide (y.k = 0))) && ((((decide (x.o = y.o)) && (decide (x.i = y.i))) && (decide (x.p = y.p))) && (decide ((IntKind.u8.wrap ((BitVec.ofInt 8 (IntKind.u8.wrap ((BitVec.ofInt 8 x.f ^^^ BitVec.ofInt 8 y.f).toNat : Int)) &&& BitVec.ofInt 8 4).toNat : Int)) = 0)))) && (decide (y.a = (IntKind.u32.wrap (x.a + 1)))))) (r_mv rfl) ?_
  refine O_gx (e := ((((decide (x.k = 0)) && (decide (y.k = 0))) && ((((decide (x.o = y.o)) && (decide (x.i = y.i))) && (decide (x.p = y.p))) && (decide ((IntKind.u8.wrap ((BitVec.ofInt 8 (IntKind.u8.wrap ((BitVec.ofInt 8 x.f ^^^ BitVec.ofInt 8 y.f).toNat : Int)) &&& BitVec.ofInt 8 4).toNat : Int)) = 0)))) && (decide (y.a = (IntKind.u32.wrap (x.a + 1)))))) (v := (.p (some (n1, 1)))) (wt rfl) (fun he => (r_fadd' rfl rfl)) ?_
  refine O_gx (e := ((((decide (x.k = 0)) && (decide (y.k = 0))) && ((((decide (x.o = y.o)) && (decide (x.i = y.i))) && (decide (x.p = y.p))) && (decide ((IntKind.u8.wrap ((BitVec.ofInt 8 (IntKind.u8.wrap ((BitVec.ofInt 8 x.f ^^^ BitVec.ofInt 8 y.f).toNat : Int)) &&& BitVec.ofInt 8 4).toNat : Int)) = 0)))) && (decide (y.a = (IntKind.u32.wrap (x.a + 1)))))) (v := (.i .u8 x.f)) (wt rfl) (fun he => (r_ld (cond_pos he) hH8.get1 rfl)) ?_
  refine O_gx (e := ((((decide (x.k = 0)) && (decide (y.k = 0))) && ((((decide (x.o = y.o)) && (decide (x.i = y.i))) && (decide (x.p = y.p))) && (decide ((IntKind.u8.wrap ((BitVec.ofInt 8 (IntKind.u8.wrap ((BitVec.ofInt 8 x.f ^^^ BitVec.ofInt 8 y.f).toNat : Int)) &&& BitVec.ofInt 8 4).toNat : Int)) = 0)))) && (decide (y.a = (IntKind.u32.wrap (x.a + 1)))))) (v := (.i .u8 (x.f % 2))) (wt rfl) (fun he => (by exact (by rw [← bit1 (f := x.f) (by assumption)]; exact r_bin (cond_pos he) rfl rfl))) ?_
  refine O_gx (e := ((((decide (x.k = 0)) && (decide (y.k = 0))) && ((((decide (x.o = y.o)) && (decide (x.i = y.i))) && (decide (x.p = y.p))) && (decide ((IntKind.u8.wrap ((BitVec.ofInt 8 (IntKind.u8.wrap ((BitVec.ofInt 8 x.f ^^^ BitVec.ofInt 8 y.f).toNat : Int)) &&& BitVec.ofInt 8 4).toNat : Int)) = 0)))) && (decide (y.a = (IntKind.u32.wrap (x.a + 1)))))) (v := (.b (decide ((x.f % 2) = 0)))) (wt rfl) (fun he => (r_eql (cond_pos he) rfl)) ?_
  refine O_p (.b (((((decide (x.k = 0)) && (decide (y.k = 0))) && ((((decide (x.o = y.o)) && (decide (x.i = y.i))) && (decide (x.p = y.p))) && (decide ((IntKind.u8.wrap ((BitVec.ofInt 8 (IntKind.u8.wrap ((BitVec.ofInt 8 x.f ^^^ BitVec.ofInt 8 y.f).toNat : Int)) &&& BitVec.ofInt 8 4).toNat : Int)) = 0)))) && (decide (y.a = (IntKind.u32.wrap (x.a + 1))))) && (decide ((x.f % 2) = 0)))) (r_pick_and rfl rfl rfl rfl) ?_
  refine O_p (.b (((((decide (x.k = 0)) && (decide (y.k = 0))) && ((((decide (x.o = y.o)) && (decide (x.i = y.i))) && (decide (x.p = y.p))) && (decide ((IntKind.u8.wrap ((BitVec.ofInt 8 (IntKind.u8.wrap ((BitVec.ofInt 8 x.f ^^^ BitVec.ofInt 8 y.f).toNat : Int)) &&& BitVec.ofInt 8 4).toNat : Int)) = 0)))) && (decide (y.a = (IntKind.u32.wrap (x.a + 1))))) && (decide ((x.f % 2) = 0)))) (r_mv rfl) ?_
  refine O_gx (e := (((((decide (x.k = 0)) && (decide (y.k = 0))) && ((((decide (x.o = y.o)) && (decide (x.i = y.i))) && (decide (x.p = y.p))) && (decide ((IntKind.u8.wrap ((BitVec.ofInt 8 (IntKind.u8.wrap ((BitVec.ofInt 8 x.f ^^^ BitVec.ofInt 8 y.f).toNat : Int)) &&& BitVec.ofInt 8 4).toNat : Int)) = 0)))) && (decide (y.a = (IntKind.u32.wrap (x.a + 1))))) && (decide ((x.f % 2) = 0)))) (v := (.p (some (n5, 1)))) (wt rfl) (fun he => (r_fadd' rfl rfl)) ?_
  refine O_gx (e := (((((decide (x.k = 0)) && (decide (y.k = 0))) && ((((decide (x.o = y.o)) && (decide (x.i = y.i))) && (decide (x.p = y.p))) && (decide ((IntKind.u8.wrap ((BitVec.ofInt 8 (IntKind.u8.wrap ((BitVec.ofInt 8 x.f ^^^ BitVec.ofInt 8 y.f).toNat : Int)) &&& BitVec.ofInt 8 4).toNat : Int)) = 0)))) && (decide (y.a = (IntKind.u32.wrap (x.a + 1))))) && (decide ((x.f % 2) = 0)))) (v := (.i .u8 y.f)) (wt rfl) (fun he => (r_ld (cond_pos he) hH8.get0 rfl)) ?_
  refine O_gx (e := (((((decide (x.k = 0)) && (decide (y.k = 0))) && ((((decide (x.o = y.o)) && (decide (x.i = y.i))) && (decide (x.p = y.p))) && (decide ((IntKind.u8.wrap ((BitVec.ofInt 8 (IntKind.u8.wrap ((BitVec.ofInt 8 x.f ^^^ BitVec.ofInt 8 y.f).toNat : Int)) &&& BitVec.ofInt 8 4).toNat : Int)) = 0)))) && (decide (y.a = (IntKind.u32.wrap (x.a + 1))))) && (decide ((x.f % 2) = 0)))) (v := (.i .u8 (2 * (y.f / 2 % 2)))) (wt rfl) (fun he => (by exact (by rw [← bit2 (f := y.f) (by assumption)]; exact r_bin (cond_pos he) rfl rfl))) ?_
  refine O_gx (e := (((((decide (x.k = 0)) && (decide (y.k = 0))) && ((((decide (x.o = y.o)) && (decide (x.i = y.i))) && (decide (x.p = y.p))) && (decide ((IntKind.u8.wrap ((BitVec.ofInt 8 (IntKind.u8.wrap ((BitVec.ofInt 8 x.f ^^^ BitVec.ofInt 8 y.f).toNat : Int)) &&& BitVec.ofInt 8 4).toNat : Int)) = 0)))) && (decide (y.a = (IntKind.u32.wrap (x.a + 1))))) && (decide ((x.f % 2) = 0)))) (v := (.b (decide ((2 * (y.f / 2 % 2)) = 0)))) (wt rfl) (fun he => (r_eql (cond_pos he) rfl)) ?_
  refine O_p (.b ((((((decide (x.k = 0)) && (decide (y.k = 0))) && ((((decide (x.o = y.o)) && (decide (x.i = y.i))) && (decide (x.p = y.p))) && (decide ((IntKind.u8.wrap ((BitVec.ofInt 8 (IntKind.u8.wrap ((BitVec.ofInt 8 x.f ^^^ BitVec.ofInt 8 y.f).toNat : Int)) &&& BitVec.ofInt 8 4).toNat : Int)) = 0)))) && (decide (y.a = (IntKind.u32.wrap (x.a + 1))))) && (decide ((x.f % 2) = 0))) && (decide ((2 * (y.f / 2 % 2)) = 0)))) (r_pick_and rfl rfl rfl rfl) ?_
  refine O_p (.b ((((((decide (x.k = 0)) && (decide (y.k = 0))) && ((((decide (x.o = y.o)) && (decide (x.i = y.i))) && (decide (x.p = y.p))) && (decide ((IntKind.u8.wrap ((BitVec.ofInt 8 (IntKind.u8.wrap ((BitVec.ofInt 8 x.f ^^^ BitVec.ofInt 8 y.f).toNat : Int)) &&& BitVec.ofInt 8 4).toNat : Int)) = 0)))) && (decide (y.a = (IntKind.u32.wrap (x.a + 1))))) && (decide ((x.f % 2) = 0))) && (decide ((2 * (y.f / 2 % 2)) = 0)))) (r_mv rfl) ?_
  refine O_nil ?_
  refine C_ret ?_
  have hH9 := ((hH8.sub0).sub0)
  have hres : ((((((decide (x.k = 0)) && (decide (y.k = 0))) && ((((decide (x.o = y.o)) && (decide (x.i = y.i))) && (decide (x.p = y.p))) && (decide ((IntKind.u8.wrap ((BitVec.ofInt 8 (IntKind.u8.wrap ((BitVec.ofInt 8 x.f ^^^ BitVec.ofInt 8 y.f).toNat : Int)) &&& BitVec.ofInt 8 4).toNat : Int)) = 0)))) && (decide (y.a = (IntKind.u32.wrap (x.a + 1))))) && (decide ((x.f % 2) = 0))) && (decide ((2 * (y.f / 2 % 2)) = 0))) = follows x y := by
    unfold follows
    simp only [bitx hxf hyf, wrap_u32] at *; rw [Bool.eq_iff_iff]; simp only [Bool.and_eq_true, decide_eq_true_eq, Bool.false_eq_true, false_iff]; omega
  exact ⟨.inr rfl, _, resL_one (r_tmp (v := (.b ((((((decide (x.k = 0)) && (decide (y.k = 0))) && ((((decide (x.o = y.o)) && (decide (x.i = y.i))) && (decide (x.p = y.p))) && (decide ((IntKind.u8.wrap ((BitVec.ofInt 8 (IntKind.u8.wrap ((BitVec.ofInt 8 x.f ^^^ BitVec.ofInt 8 y.f).toNat : Int)) &&& BitVec.ofInt 8 4).toNat : Int)) = 0)))) && (decide (y.a = (IntKind.u32.wrap (x.a + 1))))) && (decide ((x.f % 2) = 0))) && (decide ((2 * (y.f / 2 % 2)) = 0))))) rfl), by rw [hres]; rfl, hH9⟩
theorem rfollows_ev {H : AH} {R : HL} (x y : Ck) (a0 a1 a2 a3 a4 a5 b0 b1 b2 b3 b4 b5 : AV) (hxf : 0 ≤ x.f ∧ x.f < 256) (hyf : 0 ≤ y.f ∧ y.f < 256) (hxa : 0 ≤ x.a ∧ x.a < 4294967296) (hH0 : Hs H R) : Ev tabA spA (.fn (.func 17) [] []) [.agg [(.i .u8 x.k), (.i .u8 x.f), (.i .u32 x.a), a0, (.i .u16 x.o), (.i .u16 x.i), (.i .u32 x.p), a1, a2, a3, a4, a5], .agg [(.i .u8 y.k), (.i .u8 y.f), (.i .u32 y.a), b0, (.i .u16 y.o), (.i .u16 y.i), (.i .u32 y.p), b1, b2, b3, b4, b5]] H (fun r H' => r = .b (follows x y) ∧ Hs H' R) := by
  refine Ev_C (F := x17) rfl ?_
  refine C_seq ?_
  refine C_region ?_
  refine O_box (z := [(.i .u8 x.k), (.i .u8 x.f), (.i .u32 x.a), a0, (.i .u16 x.o), (.i .u16 x.i), (.i .u32 x.p), a1, a2, a3, a4, a5]) rfl fun n1 H2 hN3 => ?_
  have hH4 := hH0.new hN3
  refine O_box (z := [(.i .u8 y.k), (.i .u8 y.f), (.i .u32 y.a), b0, (.i .u16 y.o), (.i .u16 y.i), (.i .u32 y.p), b1, b2, b3, b4, b5]) rfl fun n5 H6 hN7 => ?_
  have hH8 := hH4.new hN7
  refine O_p (.b false) (r_mv rfl) ?_
  refine O_nil ?_
  refine C_seq ?_
  refine C_seq ?_
  refine C_region ?_
  refine O_p (.p (some (n1, 0))) (r_fadd' rfl rfl) ?_
  refine O_p (.i .u8 x.k) (r_ld rfl hH8.get1 rfl) ?_
  refine O_p (.b (!decide (x.k = 0))) (r_neq rfl rfl) ?_
  refine O_p (.b (!decide (x.k = 0))) (r_mv rfl) ?_
  refine O_gx (e := (!(!decide (x.k = 0)))) (v := (.p (some (n5, 0)))) (wf rfl) (fun he => (r_fadd' rfl rfl)) ?_
  refine O_gx (e := (!(!decide (x.k = 0)))) (v := (.i .u8 y.k)) (wf rfl) (fun he => (r_ld (cond_pos he) hH8.get0 rfl)) ?_
  refine O_gx (e := (!(!decide (x.k = 0)))) (v := (.b (!decide (y.k = 0)))) (wf rfl) (fun he => (r_neq (cond_pos he) rfl)) ?_
  refine O_p (.b ((!decide (x.k = 0)) || (!decide (y.k = 0)))) (r_pick_or rfl rfl rfl rfl) ?_
  refine O_p (.b ((!decide (x.k = 0)) || (!decide (y.k = 0)))) (r_mv rfl) ?_
  refine O_gx (e := (!((!decide (x.k = 0)) || (!decide (y.k = 0))))) (v := (.p (some (n5, 2)))) (wf rfl) (fun he => (r_fadd' rfl rfl)) ?_
  refine O_gx (e := (!((!decide (x.k = 0)) || (!decide (y.k = 0))))) (v := (.i .u32 y.a)) (wf rfl) (fun he => (r_ld (cond_pos he) hH8.get0 rfl)) ?_
  refine O_gx (e := (!((!decide (x.k = 0)) || (!decide (y.k = 0))))) (v := (.p (some (n1, 2)))) (wf rfl) (fun he => (r_fadd' rfl rfl)) ?_
  refine O_gx (e := (!((!decide (x.k = 0)) || (!decide (y.k = 0))))) (v := (.i .u32 x.a)) (wf rfl) (fun he => (r_ld (cond_pos he) hH8.get1 rfl)) ?_
  refine O_gx (e := (!((!decide (x.k = 0)) || (!decide (y.k = 0))))) (v := (.i .u32 (IntKind.u32.wrap (x.a + 1)))) (wf rfl) (fun he => (r_bin (cond_pos he) rfl rfl)) ?_
  refine O_gx (e := (!((!decide (x.k = 0)) || (!decide (y.k = 0))))) (v := (.b (!decide (y.a = (IntKind.u32.wrap (x.a + 1)))))) (wf rfl) (fun he => (r_neq (cond_pos he) (cond_pos he))) ?_
  refine O_p (.b (((!decide (x.k = 0)) || (!decide (y.k = 0))) || (!decide (y.a = (IntKind.u32.wrap (x.a + 1)))))) (r_pick_or rfl rfl rfl rfl) ?_
  refine O_nil ?_
  refine C_cond (x := (((!decide (x.k = 0)) || (!decide (y.k = 0))) || (!decide (y.a = (IntKind.u32.wrap (x.a + 1)))))) rfl (fun hc9 => ?_) (fun hc9 => ?_)
  ·
    try simp only [decide_eq_true_eq, decide_eq_false_iff_not, Bool.not_eq_true', Bool.not_eq_false', Bool.and_eq_true, Bool.or_eq_true, Bool.or_eq_false_iff, Bool.not_not, Bool.and_eq_false_iff] at hc9
    refine C_seq ?_
    refine C_region ?_
    refine O_p (.b false) (r_mv rfl) ?_
    refine O_nil ?_
    refine C_ret ?_
    refine nx_ret ?_
    have hH10 := ((hH8.sub0).sub0)
    have hres : false = follows x y := by
      unfold follows
      simp only [wrap_u32] at *; rw [Bool.eq_iff_iff]; simp only [Bool.and_eq_true, decide_eq_true_eq, Bool.false_eq_true, false_iff]; omega
    exact ⟨.inr rfl, _, resL_one (r_tmp (v := (.b false)) rfl), by rw [hres]; rfl, hH10⟩
  ·
    try simp only [decide_eq_true_eq, decide_eq_false_iff_not, Bool.not_eq_true', Bool.not_eq_false', Bool.and_eq_true, Bool.or_eq_true, Bool.or_eq_false_iff, Bool.not_not, Bool.and_eq_false_iff] at hc9
    refine C_skip ?_
    refine C_seq ?_
    refine C_region ?_
    refine O_p (.p (some (n1, 4))) (r_fadd' rfl rfl) ?_
    refine O_p (.i .u16 x.o) (r_ld rfl hH8.get1 rfl) ?_
    refine O_p (.p (some (n5, 4))) (r_fadd' rfl rfl) ?_
    refine O_p (.i .u16 y.o) (r_ld rfl hH8.get0 rfl) ?_
    refine O_p (.b (decide (x.o = y.o))) (r_eql rfl rfl) ?_
    refine O_p (.b (decide (x.o = y.o))) (r_mv rfl) ?_
    refine O_gx (e := (decide (x.o = y.o))) (v := (.p (some (n1, 5)))) (wt rfl) (fun he => (r_fadd' rfl rfl)) ?_
    refine O_gx (e := (decide (x.o = y.o))) (v := (.i .u16 x.i)) (wt rfl) (fun he => (r_ld (cond_pos he) hH8.get1 rfl)) ?_
    refine O_gx (e := (decide (x.o = y.o))) (v := (.p (some (n5, 5)))) (wt rfl) (fun he => (r_fadd' rfl rfl)) ?_
    refine O_gx (e := (decide (x.o = y.o))) (v := (.i .u16 y.i)) (wt rfl) (fun he => (r_ld (cond_pos he) hH8.get0 rfl)) ?_
    refine O_gx (e := (decide (x.o = y.o))) (v := (.b (decide (x.i = y.i)))) (wt rfl) (fun he => (r_eql (cond_pos he) (cond_pos he))) ?_
    refine O_p (.b ((decide (x.o = y.o)) && (decide (x.i = y.i)))) (r_pick_and rfl rfl rfl rfl) ?_
    refine O_p (.b ((decide (x.o = y.o)) && (decide (x.i = y.i)))) (r_mv rfl) ?_
    refine O_gx (e := ((decide (x.o = y.o)) && (decide (x.i = y.i)))) (v := (.p (some (n1, 6)))) (wt rfl) (fun he => (r_fadd' rfl rfl)) ?_
    refine O_gx (e := ((decide (x.o = y.o)) && (decide (x.i = y.i)))) (v := (.i .u32 x.p)) (wt rfl) (fun he => (r_ld (cond_pos he) hH8.get1 rfl)) ?_
    refine O_gx (e := ((decide (x.o = y.o)) && (decide (x.i = y.i)))) (v := (.p (some (n5, 6)))) (wt rfl) (fun he => (r_fadd' rfl rfl)) ?_
    refine O_gx (e := ((decide (x.o = y.o)) && (decide (x.i = y.i)))) (v := (.i .u32 y.p)) (wt rfl) (fun he => (r_ld (cond_pos he) hH8.get0 rfl)) ?_
    refine O_gx (e := ((decide (x.o = y.o)) && (decide (x.i = y.i)))) (v := (.b (decide (x.p = y.p)))) (wt rfl) (fun he => (r_eql (cond_pos he) (cond_pos he))) ?_
    refine O_p (.b (((decide (x.o = y.o)) && (decide (x.i = y.i))) && (decide (x.p = y.p)))) (r_pick_and rfl rfl rfl rfl) ?_
    refine O_p (.b (((decide (x.o = y.o)) && (decide (x.i = y.i))) && (decide (x.p = y.p)))) (r_mv rfl) ?_
    refine O_gx (e := (((decide (x.o = y.o)) && (decide (x.i = y.i))) && (decide (x.p = y.p)))) (v := (.p (some (n1, 1)))) (wt rfl) (fun he => (r_fadd' rfl rfl)) ?_
    refine O_gx (e := (((decide (x.o = y.o)) && (decide (x.i = y.i))) && (decide (x.p = y.p)))) (v := (.i .u8 x.f)) (wt rfl) (fun he => (r_ld (cond_pos he) hH8.get1 rfl)) ?_
    refine O_gx (e := (((decide (x.o = y.o)) && (decide (x.i = y.i))) && (decide (x.p = y.p)))) (v := (.i .u8 (x.f / 4))) (wt rfl) (fun he => (by exact (r_quou (cond_pos he) rfl (by omega) (by omega) (by rw [wrap_u8]; omega)))) ?_
    refine O_gx (e := (((decide (x.o = y.o)) && (decide (x.i = y.i))) && (decide (x.p = y.p)))) (v := (.i .u8 ((x.f / 4) % 2))) (wt rfl) (fun he => (by exact (r_remu (cond_pos he) rfl (by omega) (by omega)))) ?_
    refine O_gx (e := (((decide (x.o = y.o)) && (decide (x.i = y.i))) && (decide (x.p = y.p)))) (v := (.p (some (n5, 1)))) (wt rfl) (fun he => (r_fadd' rfl rfl)) ?_
    refine O_gx (e := (((decide (x.o = y.o)) && (decide (x.i = y.i))) && (decide (x.p = y.p)))) (v := (.i .u8 y.f)) (wt rfl) (fun he => (r_ld (cond_pos he) hH8.get0 rfl)) ?_
    refine O_gx (e := (((decide (x.o = y.o)) && (decide (x.i = y.i))) && (decide (x.p = y.p)))) (v := (.i .u8 (y.f / 4))) (wt rfl) (fun he => (by exact (r_quou (cond_pos he) rfl (by omega) (by omega) (by rw [wrap_u8]; omega)))) ?_
    refine O_gx (e := (((decide (x.o = y.o)) && (decide (x.i = y.i))) && (decide (x.p = y.p)))) (v := (.i .u8 ((y.f / 4) % 2))) (wt rfl) (fun he => (by exact (r_remu (cond_pos he) rfl (by omega) (by omega)))) ?_
    refine O_gx (e := (((decide (x.o = y.o)) && (decide (x.i = y.i))) && (decide (x.p = y.p)))) (v := (.b (decide (((x.f / 4) % 2) = ((y.f / 4) % 2))))) (wt rfl) (fun he => (r_eql (cond_pos he) (cond_pos he))) ?_
    refine O_p (.b ((((decide (x.o = y.o)) && (decide (x.i = y.i))) && (decide (x.p = y.p))) && (decide (((x.f / 4) % 2) = ((y.f / 4) % 2))))) (r_pick_and rfl rfl rfl rfl) ?_
    refine O_p (.b ((((decide (x.o = y.o)) && (decide (x.i = y.i))) && (decide (x.p = y.p))) && (decide (((x.f / 4) % 2) = ((y.f / 4) % 2))))) (r_mv rfl) ?_
    refine O_gx (e := ((((decide (x.o = y.o)) && (decide (x.i = y.i))) && (decide (x.p = y.p))) && (decide (((x.f / 4) % 2) = ((y.f / 4) % 2))))) (v := (.p (some (n1, 1)))) (wt rfl) (fun he => (r_fadd' rfl rfl)) ?_
    refine O_gx (e := ((((decide (x.o = y.o)) && (decide (x.i = y.i))) && (decide (x.p = y.p))) && (decide (((x.f / 4) % 2) = ((y.f / 4) % 2))))) (v := (.i .u8 x.f)) (wt rfl) (fun he => (r_ld (cond_pos he) hH8.get1 rfl)) ?_
    refine O_gx (e := ((((decide (x.o = y.o)) && (decide (x.i = y.i))) && (decide (x.p = y.p))) && (decide (((x.f / 4) % 2) = ((y.f / 4) % 2))))) (v := (.i .u8 (x.f % 2))) (wt rfl) (fun he => (by exact (r_remu (cond_pos he) rfl (by omega) (by omega)))) ?_
    refine O_gx (e := ((((decide (x.o = y.o)) && (decide (x.i = y.i))) && (decide (x.p = y.p))) && (decide (((x.f / 4) % 2) = ((y.f / 4) % 2))))) (v := (.b (decide ((x.f % 2) = 0)))) (wt rfl) (fun he => (r_eql (cond_pos he) rfl)) ?_
    refine O_p (.b (((((decide (x.o = y.o)) && (decide (x.i = y.i))) && (decide (x.p = y.p))) && (decide (((x.f / 4) % 2) = ((y.f / 4) % 2)))) && (decide ((x.f % 2) = 0)))) (r_pick_and rfl rfl rfl rfl) ?_
    refine O_p (.b (((((decide (x.o = y.o)) && (decide (x.i = y.i))) && (decide (x.p = y.p))) && (decide (((x.f / 4) % 2) = ((y.f / 4) % 2)))) && (decide ((x.f % 2) = 0)))) (r_mv rfl) ?_
    refine O_gx (e := (((((decide (x.o = y.o)) && (decide (x.i = y.i))) && (decide (x.p = y.p))) && (decide (((x.f / 4) % 2) = ((y.f / 4) % 2)))) && (decide ((x.f % 2) = 0)))) (v := (.p (some (n5, 1)))) (wt rfl) (fun he => (r_fadd' rfl rfl)) ?_
    refine O_gx (e := (((((decide (x.o = y.o)) && (decide (x.i = y.i))) && (decide (x.p = y.p))) && (decide (((x.f / 4) % 2) = ((y.f / 4) % 2)))) && (decide ((x.f % 2) = 0)))) (v := (.i .u8 y.f)) (wt rfl) (fun he => (r_ld (cond_pos he) hH8.get0 rfl)) ?_
    refine O_gx (e := (((((decide (x.o = y.o)) && (decide (x.i = y.i))) && (decide (x.p = y.p))) && (decide (((x.f / 4) % 2) = ((y.f / 4) % 2)))) && (decide ((x.f % 2) = 0)))) (v := (.i .u8 (y.f / 2))) (wt rfl) (fun he => (by exact (r_quou (cond_pos he) rfl (by omega) (by omega) (by rw [wrap_u8]; omega)))) ?_
    refine O_gx (e := (((((decide (x.o = y.o)) && (decide (x.i = y.i))) && (decide (x.p = y.p))) && (decide (((x.f / 4) % 2) = ((y.f / 4) % 2)))) && (decide ((x.f % 2) = 0)))) (v := (.i .u8 ((y.f / 2) % 2))) (wt rfl) (fun he => (by exact (r_remu (cond_pos he) rfl (by omega) (by omega)))) ?_
    refine O_gx (e := (((((decide (x.o = y.o)) && (decide (x.i = y.i))) && (decide (x.p = y.p))) && (decide (((x.f / 4) % 2) = ((y.f / 4) % 2)))) && (decide ((x.f % 2) = 0)))) (v := (.b (decide (((y.f / 2) % 2) = 0)))) (wt rfl) (fun he => (r_eql (cond_pos he) rfl)) ?_
    refine O_p (.b ((((((decide (x.o = y.o)) && (decide (x.i = y.i))) && (decide (x.p = y.p))) && (decide (((x.f / 4) % 2) = ((y.f / 4) % 2)))) && (decide ((x.f % 2) = 0))) && (decide (((y.f / 2) % 2) = 0)))) (r_pick_and rfl rfl rfl rfl) ?_
    refine O_p (.b ((((((decide (x.o = y.o)) && (decide (x.i = y.i))) && (decide (x.p = y.p))) && (decide (((x.f / 4) % 2) = ((y.f / 4) % 2)))) && (decide ((x.f % 2) = 0))) && (decide (((y.f / 2) % 2) = 0)))) (r_mv rfl) ?_
    refine O_nil ?_
    refine C_ret ?_
    have hH11 := ((hH8.sub0).sub0)
    have hres : ((((((decide (x.o = y.o)) && (decide (x.i = y.i))) && (decide (x.p = y.p))) && (decide (((x.f / 4) % 2) = ((y.f / 4) % 2)))) && (decide ((x.f % 2) = 0))) && (decide (((y.f / 2) % 2) = 0))) = follows x y := by
      unfold follows
      simp only [wrap_u32] at *; rw [Bool.eq_iff_iff]; simp only [Bool.and_eq_true, decide_eq_true_eq, Bool.false_eq_true, false_iff]; omega
    exact ⟨.inr rfl, _, resL_one (r_tmp (v := (.b ((((((decide (x.o = y.o)) && (decide (x.i = y.i))) && (decide (x.p = y.p))) && (decide (((x.f / 4) % 2) = ((y.f / 4) % 2)))) && (decide ((x.f % 2) = 0))) && (decide (((y.f / 2) % 2) = 0))))) rfl), by rw [hres]; rfl, hH11⟩
theorem clone_ev {tab : Nat → Option XFun} {sp : Nat → List AV → AH → Option (AV × AH)} (h19 : tab 19 = some x19) {H : AH} (hok : H.Ok) {ba : Option (Nat × Nat)} {bn bc bg : Nat} (bhg : bg = 0 ∨ bg = 1) {lb : List UInt8} (bhb : Bs H (.sl ba bn bc bg) lb) (bhc : bn ≤ bc) (bhm : bc ≤ 9223372036854775807) (hfit : bn ≤ 1073741824) : Ev tab sp (.fn (.func 19) [] []) [.sl ba bn bc bg] H (fun r H' => Mine H.next 1 H' r (bcells (lb)) ∧ Kp H H') := by
  refine Ev_C (F := x19) h19 ?_
  have bhl := bhb.length
  subst bhl
  have hO0 := Old.refl hok
  refine C_seq ?_
  refine C_region ?_
  refine O_p (.sl none 0 0 0) (r_mv rfl) ?_
  refine O_nil ?_
  refine C_seq ?_
  refine C_seq ?_
  refine C_region ?_
  refine O_p (.sl ba lb.length bc bg) (r_mv rfl) ?_
  refine O_p (.b (if false = true then !ba.isNone else ba.isNone)) (r_nils rfl) ?_
  refine O_nil ?_
  refine C_cond (x := (if false = true then !ba.isNone else ba.isNone)) rfl (fun hc1 => ?_) (fun hc1 => ?_)
  ·
    have hcx := hc1
    refine C_seq ?_
    refine C_region ?_
    refine O_p (.sl none 0 0 0) (r_mv rfl) ?_
    refine O_nil ?_
    refine C_ret ?_
    refine nx_ret ?_
    have hnil : ba = none := by simpa using hcx
    subst hnil
    obtain rfl := bhb.nilof
    exact ⟨.inr rfl, _, resL_one (r_tmp (v := .sl none 0 0 0) rfl), Mine.nil _ _ _, hO0⟩
  ·
    have hcx := hc1
    refine C_skip ?_
    refine C_seq ?_
    refine C_region ?_
    refine O_bslice (c := []) rfl fun n2 H3 hN4 => ?_
    have hF5 := hN4.fr (fun _ => False)
    have hO6 := hO0.new hN4
    have hx_hO6 := hO6.next
    have hnm_n2 : n2 = H.next := hN4.1
    have hnx_H3 : H3.next = H.next + 1 := hN4.2.1
    have hlt_n2 : n2 < H3.next := by omega
    refine O_p (.sl ba lb.length bc bg) (r_mv rfl) ?_
    have hM7 : Mine H.next 1 H3 (.sl (some (n2, 0)) 0 0 0) [] := ⟨.mk (n := 0) hN4.2.2.1 (by omega) (.inl rfl) rfl, fun q hq => by rw [nameOf_sl] at hq; omega⟩
    refine O_qh (by exact r_app (n := 0) (k := lb.length) (new := (bcells lb)) hO6.ok hO6.next hM7 rfl rfl rfl ((bhb.old hok hO6).len) ((bhb.old hok hO6).src) ((bcells_len _).trans (Nat.mul_one _).symm) (by decide) (by decide) (by first | omega | (simp only [List.length_take, List.length_drop, List.length_append, List.length_cons, List.length_nil, beN_len] <;> omega))) fun o8 H9 hA10 => ?_
    have hx_H9 := hA10.2.1
    have hO11 := hA10.old hM7 hO6
    have hx_hO11 := hO11.next
    refine O_p o8 (r_mv rfl) ?_
    refine O_nil ?_
    refine C_ret ?_
    exact ⟨.inr rfl, _, resL_one (r_tmp (v := o8) rfl), by have h := hA10.1; simpa [resV] using h, hO11⟩
set_option maxHeartbeats 1000000 in
theorem whole_ev {H : AH} {z : Bool} {B R : HL} {v : AV} {cs : List Ck} (hcs : Cks z B v cs) (hn : cs.length ≤ 1073741824) (htt : (cs.map Ck.d).flatten.length ≤ 1073741824) (hH0 : Hs H (B ++ R)) : Ev tabA spA (.fn (.func 13) [] []) [v] H (fun r H' => ∃ o c, r = .tup [.agg [.i .u16 (msgS cs).o, .b (msgS cs).u, .i .u32 (msgS cs).p, o], .b (isM cs)] ∧ Sq 1 o c (bcells (msgS cs).d) ∧ Hs H' (qseg o c ++ (B ++ R))) := by
  refine Ev_C (F := x13) rfl ?_
  obtain ⟨rows, hrw, hcr⟩ := hcs
  refine C_seq ?_
  refine C_region ?_
  refine O_alloc fun n1 H2 hN3 => ?_
  have hH4 := hH0.new hN3
  refine O_p (.b false) (r_mv rfl) ?_
  refine O_nil ?_
  refine C_seq ?_
  refine C_seq ?_
  by_cases hcs0 : cs = []
  ·
    have hn0 : cs.length = 0 := by rw [hcs0]; rfl
    refine C_region ?_
    refine O_p v (r_mv rfl) ?_
    refine O_p (.i .i64 (((cs.length : Nat)) : Int)) (r_lenOf rfl ((hrw _ hH4.top1.fst).lenOf hcr.1) (hrw _ hH4.top1.fst).isSl) ?_
    refine O_p (.b true) (by exact (by rw [r_eql rfl rfl, decide_eq_true (by first | omega | assumption)])) ?_
    refine O_p (.b true) (r_mv rfl) ?_
    refine O_gf rfl ?_
    refine O_gf rfl ?_
    refine O_gf rfl ?_
    refine O_gf rfl ?_
    refine O_gf rfl ?_
    refine O_p (.b true) (r_pick_t rfl rfl) ?_
    refine O_p (.b true) (r_mv rfl) ?_
    refine O_gf rfl ?_
    refine O_gf rfl ?_
    refine O_gf rfl ?_
    refine O_gf rfl ?_
    refine O_gf rfl ?_
    refine O_gf rfl ?_
    refine O_p (.b true) (r_pick_t rfl rfl) ?_
    refine O_p (.b true) (r_mv rfl) ?_
    refine O_gf rfl ?_
    refine O_gf rfl ?_
    refine O_gf rfl ?_
    refine O_gf rfl ?_
    refine O_gf rfl ?_
    refine O_gf rfl ?_
    refine O_gf rfl ?_
    refine O_gf rfl ?_
    refine O_gf rfl ?_
    refine O_p (.b true) (r_pick_t rfl rfl) ?_
    refine O_nil ?_
    refine C_cond (x := true) rfl (fun _ => ?_) (fun h => by cases h)
    refine C_seq ?_
    refine C_region ?_
    refine O_p (.agg [(.i .u16 0), (.b false), (.i .u32 0), (.sl none 0 0 0)]) (r_build rfl) ?_
    refine O_store (vs := [(.i .u16 0), (.b false), (.i .u32 0), (.sl none 0 0 0)]) (c' := [(.i .u16 0), (.b false), (.i .u32 0), (.sl none 0 0 0)]) rfl (by rfl) hH4.get0 rfl (List.cons_ne_nil _ _) (Nat.le_of_ble_eq_true rfl) rfl fun H5 hW6 => ?_
    have hH7 := hH4.wr0 hW6
    refine O_p (.b false) (r_mv rfl) ?_
    refine O_nil ?_
    refine C_ret ?_
    refine nx_ret ?_
    have hM : isM cs = false := by rw [hcs0]; rfl
    have hms := msgS_no hM
    have hH8 := (hH7.sub0)
    exact ⟨.inr rfl, _, resL_cons (r_cellA (b := n1) (o := 0) (l := [.i .u16 0, .b false, .i .u32 0, .sl none 0 0 0]) rfl hH7.get0 rfl) (resL_one (r_tmp (v := .b false) rfl)), .sl none 0 0 0, [], by rw [hms, hM]; rfl, by rw [hms]; exact Sq.nil, hH8.addnil⟩
  ·
    have hn0 : 0 < cs.length := List.length_pos_iff.2 hcs0
    obtain ⟨x0, hx0⟩ : ∃ x, cs[0]? = some x := ⟨_, List.getElem?_eq_getElem hn0⟩
    obtain ⟨xl, hxl⟩ : ∃ x, cs[cs.length - 1]? = some x := ⟨_, List.getElem?_eq_getElem (by omega)⟩
    obtain ⟨r9, hr9, b9, bl9, du9, sk9, pa9, a9, cap9, g9, rfl, hg9, hac9, hcm9, hok9, hz9, hbs9⟩ := hcr.2 _ _ hx0
    obtain ⟨⟨_, _⟩, hf9, ha9, hd9⟩ := hok9
    obtain ⟨r10, hr10, b10, bl10, du10, sk10, pa10, a10, cap10, g10, rfl, hg10, hac10, hcm10, hok10, hz10, hbs10⟩ := hcr.2 _ _ hxl
    obtain ⟨⟨_, _⟩, hf10, ha10, hd10⟩ := hok10
    by_cases hk0 : x0.k = 0
    ·
      by_cases hf0 : x0.f / 2 % 2 = 0
      ·
        refine C_region ?_
        refine O_p v (r_mv rfl) ?_
        refine O_p (.i .i64 (((cs.length : Nat)) : Int)) (r_lenOf rfl ((hrw _ hH4.top1.fst).lenOf hcr.1) (hrw _ hH4.top1.fst).isSl) ?_
        refine O_p (.b false) (by exact (by rw [r_eql rfl rfl, decide_eq_false (by first | omega | assumption)])) ?_
        refine O_p (.b false) (r_mv rfl) ?_
        refine O_gk rfl ?_
        refine O_p v (r_mv rfl) ?_
        refine O_gk rfl ?_
        refine O_q (by exact Rw.row (hrw _ hH4.top1.fst) rfl (i := 0) rfl (r := [(.i .u8 x0.k), (.i .u8 x0.f), (.i .u32 x0.a), (.i .u32 b9), (.i .u16 x0.o), (.i .u16 x0.i), (.i .u32 x0.p), bl9, du9, sk9, pa9, (.sl a9 x0.d.length cap9 g9)]) hr9) fun v12 hv11 => ?_
        obtain ⟨rb13, ro14, rfl, hr15⟩ := hv11
        refine O_gk rfl ?_
        refine O_p (.p (some (rb13, (ro14 + 0)))) (r_fadd' rfl rfl) ?_
        refine O_gk rfl ?_
        refine O_p (.i .u8 x0.k) (r_ldR (q := 0) rfl (hr15 _ (hrw _ hH4.top1.fst)) rfl) ?_
        refine O_gk rfl ?_
        refine O_p (.b false) (by exact (by rw [r_neq rfl rfl, decide_eq_true (by first | omega | assumption)]; rfl)) ?_
        refine O_p (.b false) (r_pick_f rfl rfl) ?_
        refine O_p (.b false) (r_mv rfl) ?_
        refine O_gk rfl ?_
        refine O_p v (r_mv rfl) ?_
        refine O_gk rfl ?_
        refine O_q (by exact Rw.row (hrw _ hH4.top1.fst) rfl (i := 0) rfl (r := [(.i .u8 x0.k), (.i .u8 x0.f), (.i .u32 x0.a), (.i .u32 b9), (.i .u16 x0.o), (.i .u16 x0.i), (.i .u32 x0.p), bl9, du9, sk9, pa9, (.sl a9 x0.d.length cap9 g9)]) hr9) fun v17 hv16 => ?_
        obtain ⟨rb18, ro19, rfl, hr20⟩ := hv16
        refine O_gk rfl ?_
        refine O_p (.p (some (rb18, (ro19 + 1)))) (r_fadd' rfl rfl) ?_
        refine O_gk rfl ?_
        refine O_p (.i .u8 x0.f) (r_ldR (q := 1) rfl (hr20 _ (hrw _ hH4.top1.fst)) rfl) ?_
        refine O_gk rfl ?_
        refine O_p (.i .u8 (2 * (x0.f / 2 % 2))) (by exact (by rw [← bit2 (f := x0.f) (by assumption)]; exact r_bin rfl rfl rfl)) ?_
        refine O_gk rfl ?_
        refine O_p (.b true) (by exact (by rw [r_eql rfl rfl, decide_eq_true (by first | omega | assumption)])) ?_
        refine O_p (.b true) (r_pick_f rfl rfl) ?_
        refine O_p (.b true) (r_mv rfl) ?_
        refine O_gf rfl ?_
        refine O_gf rfl ?_
        refine O_gf rfl ?_
        refine O_gf rfl ?_
        refine O_gf rfl ?_
        refine O_gf rfl ?_
        refine O_gf rfl ?_
        refine O_gf rfl ?_
        refine O_gf rfl ?_
        refine O_p (.b true) (r_pick_t rfl rfl) ?_
        refine O_nil ?_
        refine C_cond (x := true) rfl (fun _ => ?_) (fun h => by cases h)
        refine C_seq ?_
        refine C_region ?_
        refine O_p (.agg [(.i .u16 0), (.b false), (.i .u32 0), (.sl none 0 0 0)]) (r_build rfl) ?_
        refine O_store (vs := [(.i .u16 0), (.b false), (.i .u32 0), (.sl none 0 0 0)]) (c' := [(.i .u16 0), (.b false), (.i .u32 0), (.sl none 0 0 0)]) rfl (by rfl) hH4.get0 rfl (List.cons_ne_nil _ _) (Nat.le_of_ble_eq_true rfl) rfl fun H21 hW22 => ?_
        have hH23 := hH4.wr0 hW22
        refine O_p (.b false) (r_mv rfl) ?_
        refine O_nil ?_
        refine C_ret ?_
        refine nx_ret ?_
        have hM : isM cs = false := isM_no hx0 hxl (.inr (.inl hf0))
        have hms := msgS_no hM
        have hH24 := (hH23.sub0)
        exact ⟨.inr rfl, _, resL_cons (r_cellA (b := n1) (o := 0) (l := [.i .u16 0, .b false, .i .u32 0, .sl none 0 0 0]) rfl hH23.get0 rfl) (resL_one (r_tmp (v := .b false) rfl)), .sl none 0 0 0, [], by rw [hms, hM]; rfl, by rw [hms]; exact Sq.nil, hH24.addnil⟩
      ·
        refine C_region ?_
        refine O_p v (r_mv rfl) ?_
        refine O_p (.i .i64 (((cs.length : Nat)) : Int)) (r_lenOf rfl ((hrw _ hH4.top1.fst).lenOf hcr.1) (hrw _ hH4.top1.fst).isSl) ?_
        refine O_p (.b false) (by exact (by rw [r_eql rfl rfl, decide_eq_false (by first | omega | assumption)])) ?_
        refine O_p (.b false) (r_mv rfl) ?_
        refine O_gk rfl ?_
        refine O_p v (r_mv rfl) ?_
        refine O_gk rfl ?_
        refine O_q (by exact Rw.row (hrw _ hH4.top1.fst) rfl (i := 0) rfl (r := [(.i .u8 x0.k), (.i .u8 x0.f), (.i .u32 x0.a), (.i .u32 b9), (.i .u16 x0.o), (.i .u16 x0.i), (.i .u32 x0.p), bl9, du9, sk9, pa9, (.sl a9 x0.d.length cap9 g9)]) hr9) fun v26 hv25 => ?_
        obtain ⟨rb27, ro28, rfl, hr29⟩ := hv25
        refine O_gk rfl ?_
        refine O_p (.p (some (rb27, (ro28 + 0)))) (r_fadd' rfl rfl) ?_
        refine O_gk rfl ?_
        refine O_p (.i .u8 x0.k) (r_ldR (q := 0) rfl (hr29 _ (hrw _ hH4.top1.fst)) rfl) ?_
        refine O_gk rfl ?_
        refine O_p (.b false) (by exact (by rw [r_neq rfl rfl, decide_eq_true (by first | omega | assumption)]; rfl)) ?_
        refine O_p (.b false) (r_pick_f rfl rfl) ?_
        refine O_p (.b false) (r_mv rfl) ?_
        refine O_gk rfl ?_
        refine O_p v (r_mv rfl) ?_
        refine O_gk rfl ?_
        refine O_q (by exact Rw.row (hrw _ hH4.top1.fst) rfl (i := 0) rfl (r := [(.i .u8 x0.k), (.i .u8 x0.f), (.i .u32 x0.a), (.i .u32 b9), (.i .u16 x0.o), (.i .u16 x0.i), (.i .u32 x0.p), bl9, du9, sk9, pa9, (.sl a9 x0.d.length cap9 g9)]) hr9) fun v31 hv30 => ?_
        obtain ⟨rb32, ro33, rfl, hr34⟩ := hv30
        refine O_gk rfl ?_
        refine O_p (.p (some (rb32, (ro33 + 1)))) (r_fadd' rfl rfl) ?_
        refine O_gk rfl ?_
        refine O_p (.i .u8 x0.f) (r_ldR (q := 1) rfl (hr34 _ (hrw _ hH4.top1.fst)) rfl) ?_
        refine O_gk rfl ?_
        refine O_p (.i .u8 (2 * (x0.f / 2 % 2))) (by exact (by rw [← bit2 (f := x0.f) (by assumption)]; exact r_bin rfl rfl rfl)) ?_
        refine O_gk rfl ?_
        refine O_p (.b false) (by exact (by rw [r_eql rfl rfl, decide_eq_false (by first | omega | assumption)])) ?_
        refine O_p (.b false) (r_pick_f rfl rfl) ?_
        refine O_p (.b false) (r_mv rfl) ?_
        refine O_gk rfl ?_
        refine O_p v (r_mv rfl) ?_
        refine O_gk rfl ?_
        refine O_p v (r_mv rfl) ?_
        refine O_gk rfl ?_
        refine O_p (.i .i64 (((cs.length : Nat)) : Int)) (r_lenOf rfl ((hrw _ hH4.top1.fst).lenOf hcr.1) (hrw _ hH4.top1.fst).isSl) ?_
        refine O_gk rfl ?_
        refine O_p (.i .i64 ((((cs.length - 1) : Nat)) : Int)) (by exact (r_subn (a := cs.length) (b := 1) rfl rfl (by omega) (by omega))) ?_
        refine O_gk rfl ?_
        refine O_q (by exact Rw.row (hrw _ hH4.top1.fst) rfl (i := (cs.length - 1)) rfl (r := [(.i .u8 xl.k), (.i .u8 xl.f), (.i .u32 xl.a), (.i .u32 b10), (.i .u16 xl.o), (.i .u16 xl.i), (.i .u32 xl.p), bl10, du10, sk10, pa10, (.sl a10 xl.d.length cap10 g10)]) hr10) fun v36 hv35 => ?_
        obtain ⟨rb37, ro38, rfl, hr39⟩ := hv35
        refine O_gk rfl ?_
        refine O_p (.p (some (rb37, (ro38 + 1)))) (r_fadd' rfl rfl) ?_
        refine O_gk rfl ?_
        refine O_p (.i .u8 xl.f) (r_ldR (q := 1) rfl (hr39 _ (hrw _ hH4.top1.fst)) rfl) ?_
        refine O_gk rfl ?_
        refine O_p (.i .u8 (xl.f % 2)) (by exact (by rw [← bit1 (f := xl.f) (by assumption)]; exact r_bin rfl rfl rfl)) ?_
        refine O_gk rfl ?_
        refine O_p (.b (decide ((xl.f % 2) = 0))) (r_eql rfl rfl) ?_
        refine O_p (.b (decide ((xl.f % 2) = 0))) (r_pick_f rfl rfl) ?_
        refine O_nil ?_
        refine C_cond (x := (decide ((xl.f % 2) = 0))) rfl (fun hc40 => ?_) (fun hc40 => ?_)
        ·
          try simp only [decide_eq_true_eq, decide_eq_false_iff_not, Bool.not_eq_true', Bool.not_eq_false', Bool.and_eq_true, Bool.or_eq_true, Bool.or_eq_false_iff, Bool.not_not, Bool.and_eq_false_iff] at hc40
          refine C_seq ?_
          refine C_region ?_
          refine O_p (.agg [(.i .u16 0), (.b false), (.i .u32 0), (.sl none 0 0 0)]) (r_build rfl) ?_
          refine O_store (vs := [(.i .u16 0), (.b false), (.i .u32 0), (.sl none 0 0 0)]) (c' := [(.i .u16 0), (.b false), (.i .u32 0), (.sl none 0 0 0)]) rfl (by rfl) hH4.get0 rfl (List.cons_ne_nil _ _) (Nat.le_of_ble_eq_true rfl) rfl fun H41 hW42 => ?_
          have hH43 := hH4.wr0 hW42
          refine O_p (.b false) (r_mv rfl) ?_
          refine O_nil ?_
          refine C_ret ?_
          refine nx_ret ?_
          have hM : isM cs = false := isM_no hx0 hxl (.inr (.inr (by omega)))
          have hms := msgS_no hM
          have hH44 := (hH43.sub0)
          exact ⟨.inr rfl, _, resL_cons (r_cellA (b := n1) (o := 0) (l := [.i .u16 0, .b false, .i .u32 0, .sl none 0 0 0]) rfl hH43.get0 rfl) (resL_one (r_tmp (v := .b false) rfl)), .sl none 0 0 0, [], by rw [hms, hM]; rfl, by rw [hms]; exact Sq.nil, hH44.addnil⟩
        ·
          try simp only [decide_eq_true_eq, decide_eq_false_iff_not, Bool.not_eq_true', Bool.not_eq_false', Bool.and_eq_true, Bool.or_eq_true, Bool.or_eq_false_iff, Bool.not_not, Bool.and_eq_false_iff] at hc40
          refine C_skip ?_
          refine C_seq ?_
          refine C_draw fun b45 H46 hbase47 hA48 => ?_
          have hH49 : Hs H46 (asideL b45 [15] ++ _) := hH4.aside hA48 [15] hbase47 rfl (by decide)
          have hH50 : Hs H46 ([(b45 + 15, none)] ++ _) := hH49
          refine D_l (v := v) rfl rfl rfl (r_mv rfl) ?_
          refine D_q rfl rfl rfl (by exact Rw.row (hrw _ hH50.top2.fst) rfl (i := 0) rfl (r := [(.i .u8 x0.k), (.i .u8 x0.f), (.i .u32 x0.a), (.i .u32 b9), (.i .u16 x0.o), (.i .u16 x0.i), (.i .u32 x0.p), bl9, du9, sk9, pa9, (.sl a9 x0.d.length cap9 g9)]) hr9) fun v52 hv51 => ?_
          obtain ⟨rb53, ro54, rfl, hr55⟩ := hv51
          refine D_l (v := (.p (some (rb53, (ro54 + 4))))) rfl rfl rfl (r_fadd' rfl rfl) ?_
          refine D_l (v := v) rfl rfl rfl (r_mv rfl) ?_
          refine D_q rfl rfl rfl (by exact Rw.row (hrw _ hH50.top2.fst) rfl (i := 0) rfl (r := [(.i .u8 x0.k), (.i .u8 x0.f), (.i .u32 x0.a), (.i .u32 b9), (.i .u16 x0.o), (.i .u16 x0.i), (.i .u32 x0.p), bl9, du9, sk9, pa9, (.sl a9 x0.d.length cap9 g9)]) hr9) fun v57 hv56 => ?_
          obtain ⟨rb58, ro59, rfl, hr60⟩ := hv56
          refine D_l (v := (.p (some (rb58, (ro59 + 1))))) rfl rfl rfl (r_fadd' rfl rfl) ?_
          refine D_l (v := v) rfl rfl rfl (r_mv rfl) ?_
          refine D_q rfl rfl rfl (by exact Rw.row (hrw _ hH50.top2.fst) rfl (i := 0) rfl (r := [(.i .u8 x0.k), (.i .u8 x0.f), (.i .u32 x0.a), (.i .u32 b9), (.i .u16 x0.o), (.i .u16 x0.i), (.i .u32 x0.p), bl9, du9, sk9, pa9, (.sl a9 x0.d.length cap9 g9)]) hr9) fun v62 hv61 => ?_
          obtain ⟨rb63, ro64, rfl, hr65⟩ := hv61
          refine D_l (v := (.p (some (rb63, (ro64 + 6))))) rfl rfl rfl (r_fadd' rfl rfl) ?_
          refine D_r (v := (.i .u16 x0.o)) rfl rfl rfl (r_ldR (q := 4) rfl (hr55 _ (hrw _ hH50.top2.fst)) rfl) ?_
          refine D_r (v := (.i .u8 x0.f)) rfl rfl rfl (r_ldR (q := 1) rfl (hr60 _ (hrw _ hH50.top2.fst)) rfl) ?_
          refine D_l (v := (.i .u8 (4 * (x0.f / 4 % 2)))) rfl rfl rfl (by exact (by rw [← bit4 (f := x0.f) (by assumption)]; exact r_bin rfl rfl rfl)) ?_
          refine D_l (v := (.b (!decide ((4 * (x0.f / 4 % 2)) = 0)))) rfl rfl rfl (r_neq rfl rfl) ?_
          refine D_r (v := (.i .u32 x0.p)) rfl rfl rfl (r_ldR (q := 6) rfl (hr65 _ (hrw _ hH50.top2.fst)) rfl) ?_
          refine D_l (v := (.agg [(.i .u16 x0.o), (.b (!decide ((4 * (x0.f / 4 % 2)) = 0))), (.i .u32 x0.p), (.sl none 0 0 0)])) rfl rfl rfl (r_build rfl) ?_
          refine D_m (f := fun n => ((.p (some (n, 0))), .cells [(.i .u16 0), (.b false), (.i .u32 0), (.sl none 0 0 0)] true)) rfl rfl fun H67 hW68 => ?_
          have hH70 := hH50.wr0 hW68
          generalize hn69 : b45 + 15 = n66 at hW68 hH70 ⊢
          refine And.intro (And.intro (Or.inr (look_run rfl rfl (r_ldR (q := 6) rfl (hr65 _ (hrw _ hH70.top2.fst)) rfl))) (And.intro (Or.inr (look_run rfl rfl (r_ldR (q := 1) rfl (hr60 _ (hrw _ hH70.top2.fst)) rfl))) (And.intro (Or.inr (look_run rfl rfl (r_ldR (q := 4) rfl (hr55 _ (hrw _ hH70.top2.fst)) rfl))) True.intro))) ?_
          refine D_store (vs := [(.i .u16 x0.o), (.b (!decide ((4 * (x0.f / 4 % 2)) = 0))), (.i .u32 x0.p), (.sl none 0 0 0)]) (c' := [(.i .u16 x0.o), (.b (!decide ((4 * (x0.f / 4 % 2)) = 0))), (.i .u32 x0.p), (.sl none 0 0 0)]) rfl (by rfl) hH70.get0 rfl (List.cons_ne_nil _ _) (Nat.le_of_ble_eq_true rfl) rfl fun H71 hW72 => ?_
          have hH73 := hH70.wr0 hW72
          refine And.intro (And.intro (Or.inl rfl) (And.intro (Or.inl rfl) (And.intro (Or.inl rfl) True.intro))) ?_
          refine D_nil ?_
          refine C_seq ?_
          refine C_seq ?_
          refine C_region ?_
          refine O_p v (r_mv rfl) ?_
          refine O_p (.i .i64 (((cs.length : Nat)) : Int)) (r_lenOf rfl ((hrw _ hH73.top2.fst).lenOf hcr.1) (hrw _ hH73.top2.fst).isSl) ?_
          refine O_p (.i .i64 0) (r_mv rfl) ?_
          refine O_nil ?_
          refine C_block ?_
          have hH74 := (Hs.addnil hH73 : Hs _ (qseg (.sl none 0 0 0) [] ++ _))
          have hH75 := ((((hH74.top3).top3).top3).top3)
          refine C_while (fun m76 T77 H78 => ∃ o : AV, ∃ co : List AV, ∃ i : Nat, m76 = cs.length - i ∧ i ≤ cs.length ∧ Sq 1 o co (bcells ((cs.take i).map Ck.d).flatten) ∧ chain (cs.take i) = true ∧ Hs H78 ((qseg o co) ++ ([(n66, some (.cells ([(.i .u16 x0.o), (.b (!decide ((4 * (x0.f / 4 % 2)) = 0))), (.i .u32 x0.p), o]) true))] ++ ([(n1, some (.cells ([(.i .u16 0), (.b false), (.i .u32 0), (.sl none 0 0 0)]) true))] ++ (B ++ (R))))) ∧ T77.get 0 = v ∧ T77.get 2 = (.p (some (n1, 0))) ∧ T77.get 3 = (.b false) ∧ T77.get 4 = (.p (some (n66, 0))) ∧ T77.get 52 = v ∧ T77.get 53 = (.i .i64 (((cs.length : Nat)) : Int)) ∧ T77.get 54 = (.i .i64 (((i : Nat)) : Int))) (fun m76 T77 H78 hI79 => ?_) cs.length _ _ ⟨(.sl none 0 0 0), [], 0, rfl, Nat.zero_le _, Sq.nil, rfl, hH75, rfl, rfl, rfl, rfl, rfl, rfl, rfl⟩
          obtain ⟨o, co, i, hm80, hp81, hp82, hp83, hH91, hT84, hT85, hT86, hT87, hT88, hT89, hT90⟩ := hI79
          refine C_seq ?_
          refine C_region ?_
          refine O_p (.b (decide ((((i : Nat)) : Int) < (((cs.length : Nat)) : Int)))) (r_lss hT90 hT89) ?_
          refine O_nil ?_
          refine C_seq ?_
          refine C_cond (x := (decide ((((i : Nat)) : Int) < (((cs.length : Nat)) : Int)))) rfl (fun hc92 => ?_) (fun hc92 => ?_)
          ·
            try simp only [decide_eq_true_eq, decide_eq_false_iff_not, Bool.not_eq_true', Bool.not_eq_false', Bool.and_eq_true, Bool.or_eq_true, Bool.or_eq_false_iff, Bool.not_not, Bool.and_eq_false_iff] at hc92
            refine C_skip ?_
            refine C_seq ?_
            refine C_block ?_
            refine C_seq ?_
            refine C_region ?_
            have hin : i < cs.length := by omega
            obtain ⟨xi, hxi⟩ : ∃ x, cs[i]? = some x := ⟨_, List.getElem?_eq_getElem hin⟩
            obtain ⟨r93, hr93, b93, bl93, du93, sk93, pa93, a93, cap93, g93, rfl, hg93, hac93, hcm93, hok93, hz93, hbs93⟩ := hcr.2 _ _ hxi
            obtain ⟨⟨_, _⟩, hf93, ha93, hd93⟩ := hok93
            have htot := ck_take hxi
            have htl := ck_le (l := cs) (i := i + 1)
            rw [htot, List.length_append] at htl
            refine O_p (.i .i64 (((i : Nat)) : Int)) (r_mv hT90) ?_
            refine O_q (by exact Rw.row (hrw _ hH91.top3.fst) (by exact hT88) (i := i) (by exact hT90) (r := [(.i .u8 xi.k), (.i .u8 xi.f), (.i .u32 xi.a), (.i .u32 b93), (.i .u16 xi.o), (.i .u16 xi.i), (.i .u32 xi.p), bl93, du93, sk93, pa93, (.sl a93 xi.d.length cap93 g93)]) hr93) fun v95 hv94 => ?_
            obtain ⟨rb96, ro97, rfl, hr98⟩ := hv94
            refine O_p (.agg [(.i .u8 xi.k), (.i .u8 xi.f), (.i .u32 xi.a), (.i .u32 b93), (.i .u16 xi.o), (.i .u16 xi.i), (.i .u32 xi.p), bl93, du93, sk93, pa93, (.sl a93 xi.d.length cap93 g93)]) (r_ldRA (q := 0) rfl (hr98 _ (hrw _ hH91.top3.fst)) rfl) ?_
            refine O_alloc fun n99 H100 hN101 => ?_
            have hH102 := hH91.new hN101
            refine O_p (.i .i64 (((i : Nat)) : Int)) (r_mv rfl) ?_
            refine O_store (vs := [(.i .u8 xi.k), (.i .u8 xi.f), (.i .u32 xi.a), (.i .u32 b93), (.i .u16 xi.o), (.i .u16 xi.i), (.i .u32 xi.p), bl93, du93, sk93, pa93, (.sl a93 xi.d.length cap93 g93)]) (c' := [(.i .u8 xi.k), (.i .u8 xi.f), (.i .u32 xi.a), (.i .u32 b93), (.i .u16 xi.o), (.i .u16 xi.i), (.i .u32 xi.p), bl93, du93, sk93, pa93, (.sl a93 xi.d.length cap93 g93)]) rfl (by rfl) hH102.get0 rfl (List.cons_ne_nil _ _) (Nat.le_of_ble_eq_true rfl) rfl fun H103 hW104 => ?_
            have hH105 := hH102.wr0 hW104
            refine O_nil ?_
            refine C_seq ?_
            refine C_seq ?_
            by_cases hi0 : i = 0
            ·
              refine C_draw fun b106 H107 hbase108 hA109 => ?_
              have hH110 := hH105.keep (by have := hA109.1; omega) (fun q _ => hA109.2 q) ((hH105.old).aside hA109).ok
              refine D_l (v := (.i .i64 (((i : Nat)) : Int))) rfl rfl rfl (r_mv rfl) ?_
              refine D_l (v := (.b false)) rfl rfl rfl (by exact (by rw [r_gtr rfl rfl, decide_eq_false (by first | omega | assumption)])) ?_
              refine D_l (v := (.b false)) rfl rfl rfl (r_mv rfl) ?_
              refine D_gf rfl ?_
              refine D_gf rfl ?_
              refine D_gf rfl ?_
              refine D_gf rfl ?_
              refine D_gf rfl ?_
              refine D_gf rfl ?_
              refine D_gf rfl ?_
              refine D_gf rfl ?_
              refine D_l (v := (.b false)) rfl rfl rfl (r_pick_f rfl rfl) ?_
              refine D_nil ?_
              refine C_cond (x := false) rfl (fun h => by cases h) (fun _ => ?_)
              refine C_skip ?_
              refine C_region ?_
              refine O_p (.p (some (n66, 3))) (r_fadd' hT87 rfl) ?_
              refine O_p o (r_ld rfl hH110.get2 rfl) ?_
              refine O_p (.p (some (n99, 11))) (r_fadd' rfl rfl) ?_
              refine O_p (.sl a93 xi.d.length cap93 g93) (r_ld rfl hH110.get0 rfl) ?_
              refine O_qh (by exact r_appq (n := ((cs.take i).map Ck.d).flatten.length) (k := xi.d.length) (new := (bcells xi.d)) hH110.top1 hp82 rfl rfl ((hbs93 _ hH110.top4.fst).len) ((hbs93 _ hH110.top4.fst).src) ((bcells_len _).trans (Nat.mul_one _).symm) (by decide) (by decide) ((bcells_len _).trans (Nat.mul_one _).symm) (by first | omega | (simp only [List.length_take, List.length_drop, List.length_append, List.length_cons, List.length_nil, beN_len] <;> omega))) fun o111 H112 hA114 => ?_
              obtain ⟨c113, hA114, hH115⟩ := hA114
              obtain ⟨qa116, ql117, qc118, qg119, rfl⟩ := hA114.isSl
              refine O_p (.p (some (n66, 3))) (r_fadd' hT87 rfl) ?_
              refine O_store (vs := [(.sl qa116 ql117 qc118 qg119)]) (c' := [(.i .u16 x0.o), (.b (!decide ((4 * (x0.f / 4 % 2)) = 0))), (.i .u32 x0.p), (.sl qa116 ql117 qc118 qg119)]) rfl (by rfl) hH115.get2 rfl (List.cons_ne_nil _ _) (Nat.le_of_ble_eq_true rfl) rfl fun H120 hW121 => ?_
              have hH122 := hH115.wr2 hW121
              refine O_nil ?_
              refine C_region ?_
              refine O_p (.i .i64 ((((i : Nat)) : Int) + 1)) (by exact (r_addi hT90 rfl (wrap_i64 (by omega) (by omega)))) ?_
              refine O_p (.i .i64 ((((i : Nat)) : Int) + 1)) (r_mv rfl) ?_
              refine O_nil ?_
              have hH123 := (hH122.sub1)
              have hH124 := ((((hH123.top3).top3).top3).top3)
              exact ⟨cs.length - (i + 1), by omega, (.sl qa116 ql117 qc118 qg119), c113, (i + 1), rfl, by omega, (by have h := hA114; rw [ck_take hxi, ← bcells_append]; exact h), chain_snoc hp83 hxi (.inl hi0), hH124, hT84, hT85, hT86, hT87, hT88, hT89, rfl⟩
            ·
              obtain ⟨xp, hxp⟩ : ∃ x, cs[i - 1]? = some x := ⟨_, List.getElem?_eq_getElem (by omega)⟩
              obtain ⟨r125, hr125, b125, bl125, du125, sk125, pa125, a125, cap125, g125, rfl, hg125, hac125, hcm125, hok125, hz125, hbs125⟩ := hcr.2 _ _ hxp
              obtain ⟨⟨_, _⟩, hf125, ha125, hd125⟩ := hok125
              refine C_draw fun b126 H127 hbase128 hA129 => ?_
              have hH130 := hH105.keep (by have := hA129.1; omega) (fun q _ => hA129.2 q) ((hH105.old).aside hA129).ok
              refine D_l (v := (.i .i64 (((i : Nat)) : Int))) rfl rfl rfl (r_mv rfl) ?_
              refine D_l (v := (.b true)) rfl rfl rfl (by exact (by rw [r_gtr rfl rfl, decide_eq_true (by first | omega | assumption)])) ?_
              refine D_l (v := (.b true)) rfl rfl rfl (r_mv rfl) ?_
              refine D_gk rfl ?_
              refine D_l (v := v) rfl rfl rfl (r_mv hT84) ?_
              refine D_gk rfl ?_
              refine D_l (v := (.i .i64 (((i : Nat)) : Int))) rfl rfl rfl (r_mv rfl) ?_
              refine D_gk rfl ?_
              refine D_l (v := (.i .i64 ((((i - 1) : Nat)) : Int))) rfl rfl rfl (by exact (r_subn (a := i) (b := 1) rfl rfl (by omega) (by omega))) ?_
              refine D_gk rfl ?_
              refine D_q rfl rfl rfl (by exact Rw.row (hrw _ hH130.top4.fst) rfl (i := (i - 1)) rfl (r := [(.i .u8 xp.k), (.i .u8 xp.f), (.i .u32 xp.a), (.i .u32 b125), (.i .u16 xp.o), (.i .u16 xp.i), (.i .u32 xp.p), bl125, du125, sk125, pa125, (.sl a125 xp.d.length cap125 g125)]) hr125) fun v132 hv131 => ?_
              obtain ⟨rb133, ro134, rfl, hr135⟩ := hv131
              refine D_gk rfl ?_
              refine D_r (v := (.agg [(.i .u8 xp.k), (.i .u8 xp.f), (.i .u32 xp.a), (.i .u32 b125), (.i .u16 xp.o), (.i .u16 xp.i), (.i .u32 xp.p), bl125, du125, sk125, pa125, (.sl a125 xp.d.length cap125 g125)])) rfl rfl rfl (r_ldRA (q := 0) rfl (hr135 _ (hrw _ hH130.top4.fst)) rfl) ?_
              refine D_gk rfl ?_
              refine D_r (v := (.agg [(.i .u8 xi.k), (.i .u8 xi.f), (.i .u32 xi.a), (.i .u32 b93), (.i .u16 xi.o), (.i .u16 xi.i), (.i .u32 xi.p), bl93, du93, sk93, pa93, (.sl a93 xi.d.length cap93 g93)])) rfl rfl rfl (r_ldA rfl hH130.get0 rfl) ?_
              refine D_gk rfl ?_
              refine D_call (Ev.mono (follows_ev xp xi _ _ _ _ _ _ _ _ _ _ _ _ hf125 hf93 ha125 hH130) fun v136 H137 hq138 => ?_)
              obtain ⟨rfl, hH139⟩ := hq138
              refine And.intro (And.intro (Or.inl rfl) (And.intro (Or.inl rfl) True.intro)) ?_
              refine D_gk rfl ?_
              refine D_l (v := (.b (!(follows xp xi)))) rfl rfl rfl (r_not rfl) ?_
              refine D_l (v := (.b (!(follows xp xi)))) rfl rfl rfl (r_pick_t rfl rfl) ?_
              refine D_nil ?_
              refine C_cond (x := (!(follows xp xi))) rfl (fun hc140 => ?_) (fun hc140 => ?_)
              ·
                try simp only [decide_eq_true_eq, decide_eq_false_iff_not, Bool.not_eq_true', Bool.not_eq_false', Bool.and_eq_true, Bool.or_eq_true, Bool.or_eq_false_iff, Bool.not_not, Bool.and_eq_false_iff] at hc140
                have hfol : follows xp xi = false := by simpa using hc140
                refine C_seq ?_
                refine C_region ?_
                refine O_p (.agg [(.i .u16 0), (.b false), (.i .u32 0), (.sl none 0 0 0)]) (r_build rfl) ?_
                refine O_store (vs := [(.i .u16 0), (.b false), (.i .u32 0), (.sl none 0 0 0)]) (c' := [(.i .u16 0), (.b false), (.i .u32 0), (.sl none 0 0 0)]) hT85 (by rfl) hH139.get3 rfl (List.cons_ne_nil _ _) (Nat.le_of_ble_eq_true rfl) rfl fun H141 hW142 => ?_
                have hH143 := hH139.wr3 hW142
                refine O_p (.b false) (r_mv rfl) ?_
                refine O_nil ?_
                refine C_ret ?_
                refine nx_ret ?_
                refine bk_ret ?_
                refine nx_ret ?_
                refine nx_ret ?_
                refine bk_ret ?_
                refine nx_ret ?_
                have hM : isM cs = false := notM_chain hxp (by rw [show i - 1 + 1 = i by omega]; exact hxi) hfol
                have hms := msgS_no hM
                have hH144 := ((((hH143.sub0).sub0).sub0).sub0)
                exact ⟨.inr rfl, _, resL_cons (r_cellA (b := n1) (o := 0) (l := [.i .u16 0, .b false, .i .u32 0, .sl none 0 0 0]) hT85 hH143.get3 rfl) (resL_one (r_tmp (v := .b false) rfl)), .sl none 0 0 0, [], by rw [hms, hM]; rfl, by rw [hms]; exact Sq.nil, hH144.addnil⟩
              ·
                try simp only [decide_eq_true_eq, decide_eq_false_iff_not, Bool.not_eq_true', Bool.not_eq_false', Bool.and_eq_true, Bool.or_eq_true, Bool.or_eq_false_iff, Bool.not_not, Bool.and_eq_false_iff] at hc140
                have hfol : follows xp xi = true := by simpa using hc140
                refine C_skip ?_
                refine C_region ?_
                refine O_p (.p (some (n66, 3))) (r_fadd' hT87 rfl) ?_
                refine O_p o (r_ld rfl hH139.get2 rfl) ?_
                refine O_p (.p (some (n99, 11))) (r_fadd' rfl rfl) ?_
                refine O_p (.sl a93 xi.d.length cap93 g93) (r_ld rfl hH139.get0 rfl) ?_
                refine O_qh (by exact r_appq (n := ((cs.take i).map Ck.d).flatten.length) (k := xi.d.length) (new := (bcells xi.d)) hH139.top1 hp82 rfl rfl ((hbs93 _ hH139.top4.fst).len) ((hbs93 _ hH139.top4.fst).src) ((bcells_len _).trans (Nat.mul_one _).symm) (by decide) (by decide) ((bcells_len _).trans (Nat.mul_one _).symm) (by first | omega | (simp only [List.length_take, List.length_drop, List.length_append, List.length_cons, List.length_nil, beN_len] <;> omega))) fun o145 H146 hA148 => ?_
                obtain ⟨c147, hA148, hH149⟩ := hA148
                obtain ⟨qa150, ql151, qc152, qg153, rfl⟩ := hA148.isSl
                refine O_p (.p (some (n66, 3))) (r_fadd' hT87 rfl) ?_
                refine O_store (vs := [(.sl qa150 ql151 qc152 qg153)]) (c' := [(.i .u16 x0.o), (.b (!decide ((4 * (x0.f / 4 % 2)) = 0))), (.i .u32 x0.p), (.sl qa150 ql151 qc152 qg153)]) rfl (by rfl) hH149.get2 rfl (List.cons_ne_nil _ _) (Nat.le_of_ble_eq_true rfl) rfl fun H154 hW155 => ?_
                have hH156 := hH149.wr2 hW155
                refine O_nil ?_
                refine C_region ?_
                refine O_p (.i .i64 ((((i : Nat)) : Int) + 1)) (by exact (r_addi hT90 rfl (wrap_i64 (by omega) (by omega)))) ?_
                refine O_p (.i .i64 ((((i : Nat)) : Int) + 1)) (r_mv rfl) ?_
                refine O_nil ?_
                have hH157 := (hH156.sub1)
                have hH158 := ((((hH157.top3).top3).top3).top3)
                exact ⟨cs.length - (i + 1), by omega, (.sl qa150 ql151 qc152 qg153), c147, (i + 1), rfl, by omega, (by have h := hA148; rw [ck_take hxi, ← bcells_append]; exact h), chain_snoc hp83 hxi (.inr ⟨xp, hxp, hfol⟩), hH158, hT84, hT85, hT86, hT87, hT88, hT89, rfl⟩
          ·
            try simp only [decide_eq_true_eq, decide_eq_false_iff_not, Bool.not_eq_true', Bool.not_eq_false', Bool.and_eq_true, Bool.or_eq_true, Bool.or_eq_false_iff, Bool.not_not, Bool.and_eq_false_iff] at hc92
            refine C_exit ?_
            refine nx_exit ?_
            refine nx_exit ?_
            refine bk_hit ?_
            refine C_seq ?_
            refine C_region ?_
            refine O_p (.agg [(.i .u16 x0.o), (.b (!decide ((4 * (x0.f / 4 % 2)) = 0))), (.i .u32 x0.p), o]) (r_ldA hT87 hH91.get1 rfl) ?_
            refine O_store (vs := [(.i .u16 x0.o), (.b (!decide ((4 * (x0.f / 4 % 2)) = 0))), (.i .u32 x0.p), o]) (c' := [(.i .u16 x0.o), (.b (!decide ((4 * (x0.f / 4 % 2)) = 0))), (.i .u32 x0.p), o]) hT85 (by rfl) hH91.get2 rfl (List.cons_ne_nil _ _) (Nat.le_of_ble_eq_true rfl) rfl fun H159 hW160 => ?_
            have hH161 := hH91.wr2 hW160
            refine O_p (.b true) (r_mv rfl) ?_
            refine O_nil ?_
            refine C_ret ?_
            have hi : i = cs.length := by omega
            have hch := hp83
            have hso := hp82
            rw [hi, List.take_length] at hch hso
            have hM : isM cs = true := isM_ok hx0 hxl hk0 hf0 (by omega) hch
            have hms := msgS_ok hM hx0
            have hb4 : (!decide (4 * (x0.f / 4 % 2) = 0)) = decide (x0.f / 4 % 2 = 1) := by rw [Bool.eq_iff_iff]; simp only [Bool.not_eq_true', decide_eq_true_eq, decide_eq_false_iff_not]; omega
            have hH162 := ((hH161.sub1).sub1)
            have hH163 := ((hH162.top1).top1)
            exact ⟨.inr rfl, _, resL_cons (r_cellA (b := n1) (o := 0) (l := [(.i .u16 x0.o), (.b (!decide ((4 * (x0.f / 4 % 2)) = 0))), (.i .u32 x0.p), o]) hT85 hH161.get2 rfl) (resL_one (r_tmp (v := .b true) rfl)), o, co, by rw [hms, hM]; rw [← hb4]; rfl, by rw [hms]; exact hso, hH163⟩
    ·
      refine C_region ?_
      refine O_p v (r_mv rfl) ?_
      refine O_p (.i .i64 (((cs.length : Nat)) : Int)) (r_lenOf rfl ((hrw _ hH4.top1.fst).lenOf hcr.1) (hrw _ hH4.top1.fst).isSl) ?_
      refine O_p (.b false) (by exact (by rw [r_eql rfl rfl, decide_eq_false (by first | omega | assumption)])) ?_
      refine O_p (.b false) (r_mv rfl) ?_
      refine O_gk rfl ?_
      refine O_p v (r_mv rfl) ?_
      refine O_gk rfl ?_
      refine O_q (by exact Rw.row (hrw _ hH4.top1.fst) rfl (i := 0) rfl (r := [(.i .u8 x0.k), (.i .u8 x0.f), (.i .u32 x0.a), (.i .u32 b9), (.i .u16 x0.o), (.i .u16 x0.i), (.i .u32 x0.p), bl9, du9, sk9, pa9, (.sl a9 x0.d.length cap9 g9)]) hr9) fun v165 hv164 => ?_
      obtain ⟨rb166, ro167, rfl, hr168⟩ := hv164
      refine O_gk rfl ?_
      refine O_p (.p (some (rb166, (ro167 + 0)))) (r_fadd' rfl rfl) ?_
      refine O_gk rfl ?_
      refine O_p (.i .u8 x0.k) (r_ldR (q := 0) rfl (hr168 _ (hrw _ hH4.top1.fst)) rfl) ?_
      refine O_gk rfl ?_
      refine O_p (.b true) (by exact (by rw [r_neq rfl rfl, decide_eq_false (by first | omega | assumption)]; rfl)) ?_
      refine O_p (.b true) (r_pick_f rfl rfl) ?_
      refine O_p (.b true) (r_mv rfl) ?_
      refine O_gf rfl ?_
      refine O_gf rfl ?_
      refine O_gf rfl ?_
      refine O_gf rfl ?_
      refine O_gf rfl ?_
      refine O_gf rfl ?_
      refine O_p (.b true) (r_pick_t rfl rfl) ?_
      refine O_p (.b true) (r_mv rfl) ?_
      refine O_gf rfl ?_
      refine O_gf rfl ?_
      refine O_gf rfl ?_
      refine O_gf rfl ?_
      refine O_gf rfl ?_
      refine O_gf rfl ?_
      refine O_gf rfl ?_
      refine O_gf rfl ?_
      refine O_gf rfl ?_
      refine O_p (.b true) (r_pick_t rfl rfl) ?_
      refine O_nil ?_
      refine C_cond (x := true) rfl (fun _ => ?_) (fun h => by cases h)
      refine C_seq ?_
      refine C_region ?_
      refine O_p (.agg [(.i .u16 0), (.b false), (.i .u32 0), (.sl none 0 0 0)]) (r_build rfl) ?_
      refine O_store (vs := [(.i .u16 0), (.b false), (.i .u32 0), (.sl none 0 0 0)]) (c' := [(.i .u16 0), (.b false), (.i .u32 0), (.sl none 0 0 0)]) rfl (by rfl) hH4.get0 rfl (List.cons_ne_nil _ _) (Nat.le_of_ble_eq_true rfl) rfl fun H169 hW170 => ?_
      have hH171 := hH4.wr0 hW170
      refine O_p (.b false) (r_mv rfl) ?_
      refine O_nil ?_
      refine C_ret ?_
      refine nx_ret ?_
      have hM : isM cs = false := isM_no hx0 hxl (.inl hk0)
      have hms := msgS_no hM
      have hH172 := (hH171.sub0)
      exact ⟨.inr rfl, _, resL_cons (r_cellA (b := n1) (o := 0) (l := [.i .u16 0, .b false, .i .u32 0, .sl none 0 0 0]) rfl hH171.get0 rfl) (resL_one (r_tmp (v := .b false) rfl)), .sl none 0 0 0, [], by rw [hms, hM]; rfl, by rw [hms]; exact Sq.nil, hH172.addnil⟩
set_option maxHeartbeats 1000000 in
theorem rwhole_ev {H : AH} {z : Bool} {B R : HL} {v : AV} {cs : List Ck} (hcs : Cks z B v cs) (hn : cs.length ≤ 1073741824) (htt : (cs.map Ck.d).flatten.length ≤ 1073741824) (hH0 : Hs H (B ++ R)) : Ev tabA spA (.fn (.func 14) [] []) [v] H (fun r H' => ∃ o c, r = .tup [.agg [.i .u16 (msgS cs).o, .b (msgS cs).u, .i .u32 (msgS cs).p, o], .b (isM cs)] ∧ Sq 1 o c (bcells (msgS cs).d) ∧ Hs H' (qseg o c ++ (B ++ R))) := by
  refine Ev_C (F := x14) rfl ?_
  obtain ⟨rows, hrw, hcr⟩ := hcs
  refine C_seq ?_
  refine C_region ?_
  refine O_alloc fun n1 H2 hN3 => ?_
  have hH4 := hH0.new hN3
  refine O_p (.b false) (r_mv rfl) ?_
  refine O_nil ?_
  refine C_seq ?_
  refine C_seq ?_
  by_cases hcs0 : cs = []
  ·
    have hn0 : cs.length = 0 := by rw [hcs0]; rfl
    refine C_region ?_
    refine O_p v (r_mv rfl) ?_
    refine O_p (.i .i64 (((cs.length : Nat)) : Int)) (r_lenOf rfl ((hrw _ hH4.top1.fst).lenOf hcr.1) (hrw _ hH4.top1.fst).isSl) ?_
    refine O_p (.b true) (by exact (by rw [r_eql rfl rfl, decide_eq_true (by first | omega | assumption)])) ?_
    refine O_p (.b true) (r_mv rfl) ?_
    refine O_gf rfl ?_
    refine O_gf rfl ?_
    refine O_gf rfl ?_
    refine O_gf rfl ?_
    refine O_gf rfl ?_
    refine O_p (.b true) (r_pick_t rfl rfl) ?_
    refine O_p (.b true) (r_mv rfl) ?_
    refine O_gf rfl ?_
    refine O_gf rfl ?_
    refine O_gf rfl ?_
    refine O_gf rfl ?_
    refine O_gf rfl ?_
    refine O_gf rfl ?_
    refine O_gf rfl ?_
    refine O_p (.b true) (r_pick_t rfl rfl) ?_
    refine O_p (.b true) (r_mv rfl) ?_
    refine O_gf rfl ?_
    refine O_gf rfl ?_
    refine O_gf rfl ?_
    refine O_gf rfl ?_
    refine O_gf rfl ?_
    refine O_gf rfl ?_
    refine O_gf rfl ?_
    refine O_gf rfl ?_
    refine O_gf rfl ?_
    refine O_p (.b true) (r_pick_t rfl rfl) ?_
    refine O_nil ?_
    refine C_cond (x := true) rfl (fun _ => ?_) (fun h => by cases h)
    refine C_seq ?_
    refine C_region ?_
    refine O_p (.agg [(.i .u16 0), (.b false), (.i .u32 0), (.sl none 0 0 0)]) (r_build rfl) ?_
    refine O_store (vs := [(.i .u16 0), (.b false), (.i .u32 0), (.sl none 0 0 0)]) (c' := [(.i .u16 0), (.b false), (.i .u32 0), (.sl none 0 0 0)]) rfl (by rfl) hH4.get0 rfl (List.cons_ne_nil _ _) (Nat.le_of_ble_eq_true rfl) rfl fun H5 hW6 => ?_
    have hH7 := hH4.wr0 hW6
    refine O_p (.b false) (r_mv rfl) ?_
    refine O_nil ?_
    refine C_ret ?_
    refine nx_ret ?_
    have hM : isM cs = false := by rw [hcs0]; rfl
    have hms := msgS_no hM
    have hH8 := (hH7.sub0)
    exact ⟨.inr rfl, _, resL_cons (r_cellA (b := n1) (o := 0) (l := [.i .u16 0, .b false, .i .u32 0, .sl none 0 0 0]) rfl hH7.get0 rfl) (resL_one (r_tmp (v := .b false) rfl)), .sl none 0 0 0, [], by rw [hms, hM]; rfl, by rw [hms]; exact Sq.nil, hH8.addnil⟩
  ·
    have hn0 : 0 < cs.length := List.length_pos_iff.2 hcs0
    obtain ⟨x0, hx0⟩ : ∃ x, cs[0]? = some x := ⟨_, List.getElem?_eq_getElem hn0⟩
    obtain ⟨xl, hxl⟩ : ∃ x, cs[cs.length - 1]? = some x := ⟨_, List.getElem?_eq_getElem (by omega)⟩
    obtain ⟨r9, hr9, b9, bl9, du9, sk9, pa9, a9, cap9, g9, rfl, hg9, hac9, hcm9, hok9, hz9, hbs9⟩ := hcr.2 _ _ hx0
    obtain ⟨⟨_, _⟩, hf9, ha9, hd9⟩ := hok9
    obtain ⟨r10, hr10, b10, bl10, du10, sk10, pa10, a10, cap10, g10, rfl, hg10, hac10, hcm10, hok10, hz10, hbs10⟩ := hcr.2 _ _ hxl
    obtain ⟨⟨_, _⟩, hf10, ha10, hd10⟩ := hok10
    by_cases hk0 : x0.k = 0
    ·
      by_cases hf0 : x0.f / 2 % 2 = 0
      ·
        refine C_region ?_
        refine O_p v (r_mv rfl) ?_
        refine O_p (.i .i64 (((cs.length : Nat)) : Int)) (r_lenOf rfl ((hrw _ hH4.top1.fst).lenOf hcr.1) (hrw _ hH4.top1.fst).isSl) ?_
        refine O_p (.b false) (by exact (by rw [r_eql rfl rfl, decide_eq_false (by first | omega | assumption)])) ?_
        refine O_p (.b false) (r_mv rfl) ?_
        refine O_gk rfl ?_
        refine O_p v (r_mv rfl) ?_
        refine O_gk rfl ?_
        refine O_q (by exact Rw.row (hrw _ hH4.top1.fst) rfl (i := 0) rfl (r := [(.i .u8 x0.k), (.i .u8 x0.f), (.i .u32 x0.a), (.i .u32 b9), (.i .u16 x0.o), (.i .u16 x0.i), (.i .u32 x0.p), bl9, du9, sk9, pa9, (.sl a9 x0.d.length cap9 g9)]) hr9) fun v12 hv11 => ?_
        obtain ⟨rb13, ro14, rfl, hr15⟩ := hv11
        refine O_gk rfl ?_
        refine O_p (.p (some (rb13, (ro14 + 0)))) (r_fadd' rfl rfl) ?_
        refine O_gk rfl ?_
        refine O_p (.i .u8 x0.k) (r_ldR (q := 0) rfl (hr15 _ (hrw _ hH4.top1.fst)) rfl) ?_
        refine O_gk rfl ?_
        refine O_p (.b false) (by exact (by rw [r_neq rfl rfl, decide_eq_true (by first | omega | assumption)]; rfl)) ?_
        refine O_p (.b false) (r_pick_f rfl rfl) ?_
        refine O_p (.b false) (r_mv rfl) ?_
        refine O_gk rfl ?_
        refine O_p v (r_mv rfl) ?_
        refine O_gk rfl ?_
        refine O_q (by exact Rw.row (hrw _ hH4.top1.fst) rfl (i := 0) rfl (r := [(.i .u8 x0.k), (.i .u8 x0.f), (.i .u32 x0.a), (.i .u32 b9), (.i .u16 x0.o), (.i .u16 x0.i), (.i .u32 x0.p), bl9, du9, sk9, pa9, (.sl a9 x0.d.length cap9 g9)]) hr9) fun v17 hv16 => ?_
        obtain ⟨rb18, ro19, rfl, hr20⟩ := hv16
        refine O_gk rfl ?_
        refine O_p (.p (some (rb18, (ro19 + 1)))) (r_fadd' rfl rfl) ?_
        refine O_gk rfl ?_
        refine O_p (.i .u8 x0.f) (r_ldR (q := 1) rfl (hr20 _ (hrw _ hH4.top1.fst)) rfl) ?_
        refine O_gk rfl ?_
        refine O_p (.i .u8 (x0.f / 2)) (by exact (r_quou rfl rfl (by omega) (by omega) (by rw [wrap_u8]; omega))) ?_
        refine O_gk rfl ?_
        refine O_p (.i .u8 ((x0.f / 2) % 2)) (by exact (r_remu rfl rfl (by omega) (by omega))) ?_
        refine O_gk rfl ?_
        refine O_p (.b true) (by exact (by rw [r_eql rfl rfl, decide_eq_true (by first | omega | assumption)])) ?_
        refine O_p (.b true) (r_pick_f rfl rfl) ?_
        refine O_p (.b true) (r_mv rfl) ?_
        refine O_gf rfl ?_
        refine O_gf rfl ?_
        refine O_gf rfl ?_
        refine O_gf rfl ?_
        refine O_gf rfl ?_
        refine O_gf rfl ?_
        refine O_gf rfl ?_
        refine O_gf rfl ?_
        refine O_gf rfl ?_
        refine O_p (.b true) (r_pick_t rfl rfl) ?_
        refine O_nil ?_
        refine C_cond (x := true) rfl (fun _ => ?_) (fun h => by cases h)
        refine C_seq ?_
        refine C_region ?_
        refine O_p (.agg [(.i .u16 0), (.b false), (.i .u32 0), (.sl none 0 0 0)]) (r_build rfl) ?_
        refine O_store (vs := [(.i .u16 0), (.b false), (.i .u32 0), (.sl none 0 0 0)]) (c' := [(.i .u16 0), (.b false), (.i .u32 0), (.sl none 0 0 0)]) rfl (by rfl) hH4.get0 rfl (List.cons_ne_nil _ _) (Nat.le_of_ble_eq_true rfl) rfl fun H21 hW22 => ?_
        have hH23 := hH4.wr0 hW22
        refine O_p (.b false) (r_mv rfl) ?_
        refine O_nil ?_
        refine C_ret ?_
        refine nx_ret ?_
        have hM : isM cs = false := isM_no hx0 hxl (.inr (.inl hf0))
        have hms := msgS_no hM
        have hH24 := (hH23.sub0)
        exact ⟨.inr rfl, _, resL_cons (r_cellA (b := n1) (o := 0) (l := [.i .u16 0, .b false, .i .u32 0, .sl none 0 0 0]) rfl hH23.get0 rfl) (resL_one (r_tmp (v := .b false) rfl)), .sl none 0 0 0, [], by rw [hms, hM]; rfl, by rw [hms]; exact Sq.nil, hH24.addnil⟩
      ·
        refine C_region ?_
        refine O_p v (r_mv rfl) ?_
        refine O_p (.i .i64 (((cs.length : Nat)) : Int)) (r_lenOf rfl ((hrw _ hH4.top1.fst).lenOf hcr.1) (hrw _ hH4.top1.fst).isSl) ?_
        refine O_p (.b false) (by exact (by rw [r_eql rfl rfl, decide_eq_false (by first | omega | assumption)])) ?_
        refine O_p (.b false) (r_mv rfl) ?_
        refine O_gk rfl ?_
        refine O_p v (r_mv rfl) ?_
        refine O_gk rfl ?_
        refine O_q (by exact Rw.row (hrw _ hH4.top1.fst) rfl (i := 0) rfl (r := [(.i .u8 x0.k), (.i .u8 x0.f), (.i .u32 x0.a), (.i .u32 b9), (.i .u16 x0.o), (.i .u16 x0.i), (.i .u32 x0.p), bl9, du9, sk9, pa9, (.sl a9 x0.d.length cap9 g9)]) hr9) fun v26 hv25 => ?_
        obtain ⟨rb27, ro28, rfl, hr29⟩ := hv25
        refine O_gk rfl ?_
        refine O_p (.p (some (rb27, (ro28 + 0)))) (r_fadd' rfl rfl) ?_
        refine O_gk rfl ?_
        refine O_p (.i .u8 x0.k) (r_ldR (q := 0) rfl (hr29 _ (hrw _ hH4.top1.fst)) rfl) ?_
        refine O_gk rfl ?_
        refine O_p (.b false) (by exact (by rw [r_neq rfl rfl, decide_eq_true (by first | omega | assumption)]; rfl)) ?_
        refine O_p (.b false) (r_pick_f rfl rfl) ?_
        refine O_p (.b false) (r_mv rfl) ?_
        refine O_gk rfl ?_
        refine O_p v (r_mv rfl) ?_
        refine O_gk rfl ?_
        refine O_q (by exact Rw.row (hrw _ hH4.top1.fst) rfl (i := 0) rfl (r := [(.i .u8 x0.k), (.i .u8 x0.f), (.i .u32 x0.a), (.i .u32 b9), (.i .u16 x0.o), (.i .u16 x0.i), (.i .u32 x0.p), bl9, du9, sk9, pa9, (.sl a9 x0.d.length cap9 g9)]) hr9) fun v31 hv30 => ?_
        obtain ⟨rb32, ro33, rfl, hr34⟩ := hv30
        refine O_gk rfl ?_
        refine O_p (.p (some (rb32, (ro33 + 1)))) (r_fadd' rfl rfl) ?_
        refine O_gk rfl ?_
        refine O_p (.i .u8 x0.f) (r_ldR (q := 1) rfl (hr34 _ (hrw _ hH4.top1.fst)) rfl) ?_
        refine O_gk rfl ?_
        refine O_p (.i .u8 (x0.f / 2)) (by exact (r_quou rfl rfl (by omega) (by omega) (by rw [wrap_u8]; omega))) ?_
        refine O_gk rfl ?_
        refine O_p (.i .u8 ((x0.f / 2) % 2)) (by exact (r_remu rfl rfl (by omega) (by omega))) ?_
        refine O_gk rfl ?_
        refine O_p (.b false) (by exact (by rw [r_eql rfl rfl, decide_eq_false (by first | omega | assumption)])) ?_
        refine O_p (.b false) (r_pick_f rfl rfl) ?_
        refine O_p (.b false) (r_mv rfl) ?_
        refine O_gk rfl ?_
        refine O_p v (r_mv rfl) ?_
        refine O_gk rfl ?_
        refine O_p v (r_mv rfl) ?_
        refine O_gk rfl ?_
        refine O_p (.i .i64 (((cs.length : Nat)) : Int)) (r_lenOf rfl ((hrw _ hH4.top1.fst).lenOf hcr.1) (hrw _ hH4.top1.fst).isSl) ?_
        refine O_gk rfl ?_
        refine O_p (.i .i64 ((((cs.length - 1) : Nat)) : Int)) (by exact (r_subn (a := cs.length) (b := 1) rfl rfl (by omega) (by omega))) ?_
        refine O_gk rfl ?_
        refine O_q (by exact Rw.row (hrw _ hH4.top1.fst) rfl (i := (cs.length - 1)) rfl (r := [(.i .u8 xl.k), (.i .u8 xl.f), (.i .u32 xl.a), (.i .u32 b10), (.i .u16 xl.o), (.i .u16 xl.i), (.i .u32 xl.p), bl10, du10, sk10, pa10, (.sl a10 xl.d.length cap10 g10)]) hr10) fun v36 hv35 => ?_
        obtain ⟨rb37, ro38, rfl, hr39⟩ := hv35
        refine O_gk rfl ?_
        refine O_p (.p (some (rb37, (ro38 + 1)))) (r_fadd' rfl rfl) ?_
        refine O_gk rfl ?_
        refine O_p (.i .u8 xl.f) (r_ldR (q := 1) rfl (hr39 _ (hrw _ hH4.top1.fst)) rfl) ?_
        refine O_gk rfl ?_
        refine O_p (.i .u8 (xl.f % 2)) (by exact (r_remu rfl rfl (by omega) (by omega))) ?_
        refine O_gk rfl ?_
        refine O_p (.b (decide ((xl.f % 2) = 0))) (r_eql rfl rfl) ?_
        refine O_p (.b (decide ((xl.f % 2) = 0))) (r_pick_f rfl rfl) ?_
        refine O_nil ?_
        refine C_cond (x := (decide ((xl.f % 2) = 0))) rfl (fun hc40 => ?_) (fun hc40 => ?_)
        ·
          try simp only [decide_eq_true_eq, decide_eq_false_iff_not, Bool.not_eq_true', Bool.not_eq_false', Bool.and_eq_true, Bool.or_eq_true, Bool.or_eq_false_iff, Bool.not_not, Bool.and_eq_false_iff] at hc40
          refine C_seq ?_
          refine C_region ?_
          refine O_p (.agg [(.i .u16 0), (.b false), (.i .u32 0), (.sl none 0 0 0)]) (r_build rfl) ?_
          refine O_store (vs := [(.i .u16 0), (.b false), (.i .u32 0), (.sl none 0 0 0)]) (c' := [(.i .u16 0), (.b false), (.i .u32 0), (.sl none 0 0 0)]) rfl (by rfl) hH4.get0 rfl (List.cons_ne_nil _ _) (Nat.le_of_ble_eq_true rfl) rfl fun H41 hW42 => ?_
          have hH43 := hH4.wr0 hW42
          refine O_p (.b false) (r_mv rfl) ?_
          refine O_nil ?_
          refine C_ret ?_
          refine nx_ret ?_
          have hM : isM cs = false := isM_no hx0 hxl (.inr (.inr (by omega)))
          have hms := msgS_no hM
          have hH44 := (hH43.sub0)
          exact ⟨.inr rfl, _, resL_cons (r_cellA (b := n1) (o := 0) (l := [.i .u16 0, .b false, .i .u32 0, .sl none 0 0 0]) rfl hH43.get0 rfl) (resL_one (r_tmp (v := .b false) rfl)), .sl none 0 0 0, [], by rw [hms, hM]; rfl, by rw [hms]; exact Sq.nil, hH44.addnil⟩
        ·
          try simp only [decide_eq_true_eq, decide_eq_false_iff_not, Bool.not_eq_true', Bool.not_eq_false', Bool.and_eq_true, Bool.or_eq_true, Bool.or_eq_false_iff, Bool.not_not, Bool.and_eq_false_iff] at hc40
          refine C_skip ?_
          refine C_seq ?_
          refine C_draw fun b45 H46 hbase47 hA48 => ?_
          have hH49 : Hs H46 (asideL b45 [16] ++ _) := hH4.aside hA48 [16] hbase47 rfl (by decide)
          have hH50 : Hs H46 ([(b45 + 16, none)] ++ _) := hH49
          refine D_l (v := v) rfl rfl rfl (r_mv rfl) ?_
          refine D_q rfl rfl rfl (by exact Rw.row (hrw _ hH50.top2.fst) rfl (i := 0) rfl (r := [(.i .u8 x0.k), (.i .u8 x0.f), (.i .u32 x0.a), (.i .u32 b9), (.i .u16 x0.o), (.i .u16 x0.i), (.i .u32 x0.p), bl9, du9, sk9, pa9, (.sl a9 x0.d.length cap9 g9)]) hr9) fun v52 hv51 => ?_
          obtain ⟨rb53, ro54, rfl, hr55⟩ := hv51
          refine D_l (v := (.p (some (rb53, (ro54 + 4))))) rfl rfl rfl (r_fadd' rfl rfl) ?_
          refine D_l (v := v) rfl rfl rfl (r_mv rfl) ?_
          refine D_q rfl rfl rfl (by exact Rw.row (hrw _ hH50.top2.fst) rfl (i := 0) rfl (r := [(.i .u8 x0.k), (.i .u8 x0.f), (.i .u32 x0.a), (.i .u32 b9), (.i .u16 x0.o), (.i .u16 x0.i), (.i .u32 x0.p), bl9, du9, sk9, pa9, (.sl a9 x0.d.length cap9 g9)]) hr9) fun v57 hv56 => ?_
          obtain ⟨rb58, ro59, rfl, hr60⟩ := hv56
          refine D_l (v := (.p (some (rb58, (ro59 + 1))))) rfl rfl rfl (r_fadd' rfl rfl) ?_
          refine D_l (v := v) rfl rfl rfl (r_mv rfl) ?_
          refine D_q rfl rfl rfl (by exact Rw.row (hrw _ hH50.top2.fst) rfl (i := 0) rfl (r := [(.i .u8 x0.k), (.i .u8 x0.f), (.i .u32 x0.a), (.i .u32 b9), (.i .u16 x0.o), (.i .u16 x0.i), (.i .u32 x0.p), bl9, du9, sk9, pa9, (.sl a9 x0.d.length cap9 g9)]) hr9) fun v62 hv61 => ?_
          obtain ⟨rb63, ro64, rfl, hr65⟩ := hv61
          refine D_l (v := (.p (some (rb63, (ro64 + 6))))) rfl rfl rfl (r_fadd' rfl rfl) ?_
          refine D_r (v := (.i .u16 x0.o)) rfl rfl rfl (r_ldR (q := 4) rfl (hr55 _ (hrw _ hH50.top2.fst)) rfl) ?_
          refine D_r (v := (.i .u8 x0.f)) rfl rfl rfl (r_ldR (q := 1) rfl (hr60 _ (hrw _ hH50.top2.fst)) rfl) ?_
          refine D_l (v := (.i .u8 (x0.f / 4))) rfl rfl rfl (by exact (r_quou rfl rfl (by omega) (by omega) (by rw [wrap_u8]; omega))) ?_
          refine D_l (v := (.i .u8 ((x0.f / 4) % 2))) rfl rfl rfl (by exact (r_remu rfl rfl (by omega) (by omega))) ?_
          refine D_l (v := (.b (decide (((x0.f / 4) % 2) = 1)))) rfl rfl rfl (r_eql rfl rfl) ?_
          refine D_r (v := (.i .u32 x0.p)) rfl rfl rfl (r_ldR (q := 6) rfl (hr65 _ (hrw _ hH50.top2.fst)) rfl) ?_
          refine D_l (v := (.agg [(.i .u16 x0.o), (.b (decide (((x0.f / 4) % 2) = 1))), (.i .u32 x0.p), (.sl none 0 0 0)])) rfl rfl rfl (r_build rfl) ?_
          refine D_m (f := fun n => ((.p (some (n, 0))), .cells [(.i .u16 0), (.b false), (.i .u32 0), (.sl none 0 0 0)] true)) rfl rfl fun H67 hW68 => ?_
          have hH70 := hH50.wr0 hW68
          generalize hn69 : b45 + 16 = n66 at hW68 hH70 ⊢
          refine And.intro (And.intro (Or.inr (look_run rfl rfl (r_ldR (q := 6) rfl (hr65 _ (hrw _ hH70.top2.fst)) rfl))) (And.intro (Or.inr (look_run rfl rfl (r_ldR (q := 1) rfl (hr60 _ (hrw _ hH70.top2.fst)) rfl))) (And.intro (Or.inr (look_run rfl rfl (r_ldR (q := 4) rfl (hr55 _ (hrw _ hH70.top2.fst)) rfl))) True.intro))) ?_
          refine D_store (vs := [(.i .u16 x0.o), (.b (decide (((x0.f / 4) % 2) = 1))), (.i .u32 x0.p), (.sl none 0 0 0)]) (c' := [(.i .u16 x0.o), (.b (decide (((x0.f / 4) % 2) = 1))), (.i .u32 x0.p), (.sl none 0 0 0)]) rfl (by rfl) hH70.get0 rfl (List.cons_ne_nil _ _) (Nat.le_of_ble_eq_true rfl) rfl fun H71 hW72 => ?_
          have hH73 := hH70.wr0 hW72
          refine And.intro (And.intro (Or.inl rfl) (And.intro (Or.inl rfl) (And.intro (Or.inl rfl) True.intro))) ?_
          refine D_nil ?_
          refine C_seq ?_
          refine C_seq ?_
          refine C_region ?_
          refine O_p (.i .i64 0) (r_mv rfl) ?_
          refine O_nil ?_
          refine C_block ?_
          have hH74 := (Hs.addnil hH73 : Hs _ (qseg (.sl none 0 0 0) [] ++ _))
          have hH75 := ((((hH74.top3).top3).top3).top3)
          refine C_while (fun m76 T77 H78 => ∃ o : AV, ∃ co : List AV, ∃ i : Nat, m76 = cs.length - i ∧ i ≤ cs.length ∧ Sq 1 o co (bcells ((cs.take i).map Ck.d).flatten) ∧ chain (cs.take i) = true ∧ Hs H78 ((qseg o co) ++ ([(n66, some (.cells ([(.i .u16 x0.o), (.b (decide (((x0.f / 4) % 2) = 1))), (.i .u32 x0.p), o]) true))] ++ ([(n1, some (.cells ([(.i .u16 0), (.b false), (.i .u32 0), (.sl none 0 0 0)]) true))] ++ (B ++ (R))))) ∧ T77.get 0 = v ∧ T77.get 2 = (.p (some (n1, 0))) ∧ T77.get 3 = (.b false) ∧ T77.get 4 = (.p (some (n66, 0))) ∧ T77.get 5 = (.i .i64 (((i : Nat)) : Int))) (fun m76 T77 H78 hI79 => ?_) cs.length _ _ ⟨(.sl none 0 0 0), [], 0, rfl, Nat.zero_le _, Sq.nil, rfl, hH75, rfl, rfl, rfl, rfl, rfl⟩
          obtain ⟨o, co, i, hm80, hp81, hp82, hp83, hH89, hT84, hT85, hT86, hT87, hT88⟩ := hI79
          refine C_seq ?_
          refine C_seq ?_
          refine C_region ?_
          refine O_p (.i .i64 (((i : Nat)) : Int)) (r_mv hT88) ?_
          refine O_p v (r_mv hT84) ?_
          refine O_p (.i .i64 (((cs.length : Nat)) : Int)) (r_lenOf rfl ((hrw _ hH89.top3.fst).lenOf hcr.1) (hrw _ hH89.top3.fst).isSl) ?_
          refine O_p (.b (decide ((((i : Nat)) : Int) < (((cs.length : Nat)) : Int)))) (r_lss rfl rfl) ?_
          refine O_nil ?_
          refine C_cond (x := (decide ((((i : Nat)) : Int) < (((cs.length : Nat)) : Int)))) rfl (fun hc90 => ?_) (fun hc90 => ?_)
          ·
            try simp only [decide_eq_true_eq, decide_eq_false_iff_not, Bool.not_eq_true', Bool.not_eq_false', Bool.and_eq_true, Bool.or_eq_true, Bool.or_eq_false_iff, Bool.not_not, Bool.and_eq_false_iff] at hc90
            refine C_skip ?_
            refine C_seq ?_
            refine C_block ?_
            refine C_seq ?_
            refine C_seq ?_
            by_cases hi0 : i = 0
            ·
              refine C_draw fun b91 H92 hbase93 hA94 => ?_
              have hH95 := hH89.keep (by have := hA94.1; omega) (fun q _ => hA94.2 q) ((hH89.old).aside hA94).ok
              have hin : i < cs.length := by omega
              obtain ⟨xi, hxi⟩ : ∃ x, cs[i]? = some x := ⟨_, List.getElem?_eq_getElem hin⟩
              obtain ⟨r96, hr96, b96, bl96, du96, sk96, pa96, a96, cap96, g96, rfl, hg96, hac96, hcm96, hok96, hz96, hbs96⟩ := hcr.2 _ _ hxi
              obtain ⟨⟨_, _⟩, hf96, ha96, hd96⟩ := hok96
              have htot := ck_take hxi
              have htl := ck_le (l := cs) (i := i + 1)
              rw [htot, List.length_append] at htl
              refine D_l (v := (.i .i64 (((i : Nat)) : Int))) rfl rfl rfl (r_mv hT88) ?_
              refine D_l (v := (.b false)) rfl rfl rfl (by exact (by rw [r_gtr rfl rfl, decide_eq_false (by first | omega | assumption)])) ?_
              refine D_l (v := (.b false)) rfl rfl rfl (r_mv rfl) ?_
              refine D_gf rfl ?_
              refine D_gf rfl ?_
              refine D_gf rfl ?_
              refine D_gf rfl ?_
              refine D_gf rfl ?_
              refine D_gf rfl ?_
              refine D_gf rfl ?_
              refine D_gf rfl ?_
              refine D_gf rfl ?_
              refine D_gf rfl ?_
              refine D_gf rfl ?_
              refine D_l (v := (.b false)) rfl rfl rfl (r_pick_f rfl rfl) ?_
              refine D_nil ?_
              refine C_cond (x := false) rfl (fun h => by cases h) (fun _ => ?_)
              refine C_skip ?_
              refine C_draw fun b97 H98 hbase99 hA100 => ?_
              have hH101 := hH95.keep (by have := hA100.1; omega) (fun q _ => hA100.2 q) ((hH95.old).aside hA100).ok
              refine D_l (v := (.p (some (n66, 3)))) rfl rfl rfl (r_fadd' hT87 rfl) ?_
              refine D_l (v := v) rfl rfl rfl (r_mv hT84) ?_
              refine D_l (v := (.i .i64 (((i : Nat)) : Int))) rfl rfl rfl (r_mv hT88) ?_
              refine D_q rfl rfl rfl (by exact Rw.row (hrw _ hH101.top3.fst) rfl (i := i) rfl (r := [(.i .u8 xi.k), (.i .u8 xi.f), (.i .u32 xi.a), (.i .u32 b96), (.i .u16 xi.o), (.i .u16 xi.i), (.i .u32 xi.p), bl96, du96, sk96, pa96, (.sl a96 xi.d.length cap96 g96)]) hr96) fun v103 hv102 => ?_
              obtain ⟨rb104, ro105, rfl, hr106⟩ := hv102
              refine D_l (v := (.p (some (rb104, (ro105 + 11))))) rfl rfl rfl (r_fadd' rfl rfl) ?_
              refine D_r (v := o) rfl rfl rfl (r_ld rfl hH101.get1 rfl) ?_
              refine D_r (v := (.sl a96 xi.d.length cap96 g96)) rfl rfl rfl (r_ldR (q := 11) rfl (hr106 _ (hrw _ hH101.top3.fst)) rfl) ?_
              refine D_qh rfl rfl (by exact r_appq (n := ((cs.take i).map Ck.d).flatten.length) (k := xi.d.length) (new := (bcells xi.d)) hH101.top0 hp82 rfl rfl ((hbs96 _ hH101.top3.fst).len) ((hbs96 _ hH101.top3.fst).src) ((bcells_len _).trans (Nat.mul_one _).symm) (by decide) (by decide) ((bcells_len _).trans (Nat.mul_one _).symm) (by first | omega | (simp only [List.length_take, List.length_drop, List.length_append, List.length_cons, List.length_nil, beN_len] <;> omega))) fun o107 H108 hA110 => ?_
              obtain ⟨c109, hA110, hH111⟩ := hA110
              refine And.intro (And.intro (Or.inl rfl) (And.intro (Or.inl rfl) True.intro)) ?_
              obtain ⟨qa112, ql113, qc114, qg115, rfl⟩ := hA110.isSl
              refine D_l (v := (.p (some (n66, 3)))) rfl rfl rfl (r_fadd' hT87 rfl) ?_
              refine D_store (vs := [(.sl qa112 ql113 qc114 qg115)]) (c' := [(.i .u16 x0.o), (.b (decide (((x0.f / 4) % 2) = 1))), (.i .u32 x0.p), (.sl qa112 ql113 qc114 qg115)]) rfl (by rfl) hH111.get1 rfl (List.cons_ne_nil _ _) (Nat.le_of_ble_eq_true rfl) rfl fun H116 hW117 => ?_
              have hH118 := hH111.wr1 hW117
              refine And.intro True.intro ?_
              refine D_nil ?_
              refine C_region ?_
              refine O_p (.i .i64 (((i : Nat)) : Int)) (r_mv hT88) ?_
              refine O_p (.i .i64 ((((i : Nat)) : Int) + 1)) (by exact (r_addi rfl rfl (wrap_i64 (by omega) (by omega)))) ?_
              refine O_p (.i .i64 ((((i : Nat)) : Int) + 1)) (r_mv rfl) ?_
              refine O_nil ?_
              have hH119 := ((((hH118.top3).top3).top3).top3)
              exact ⟨cs.length - (i + 1), by omega, (.sl qa112 ql113 qc114 qg115), c109, (i + 1), rfl, by omega, (by have h := hA110; rw [ck_take hxi, ← bcells_append]; exact h), chain_snoc hp83 hxi (.inl hi0), hH119, hT84, hT85, hT86, hT87, rfl⟩
            ·
              obtain ⟨xp, hxp⟩ : ∃ x, cs[i - 1]? = some x := ⟨_, List.getElem?_eq_getElem (by omega)⟩
              obtain ⟨r120, hr120, b120, bl120, du120, sk120, pa120, a120, cap120, g120, rfl, hg120, hac120, hcm120, hok120, hz120, hbs120⟩ := hcr.2 _ _ hxp
              obtain ⟨⟨_, _⟩, hf120, ha120, hd120⟩ := hok120
              refine C_draw fun b121 H122 hbase123 hA124 => ?_
              have hH125 := hH89.keep (by have := hA124.1; omega) (fun q _ => hA124.2 q) ((hH89.old).aside hA124).ok
              have hin : i < cs.length := by omega
              obtain ⟨xi, hxi⟩ : ∃ x, cs[i]? = some x := ⟨_, List.getElem?_eq_getElem hin⟩
              obtain ⟨r126, hr126, b126, bl126, du126, sk126, pa126, a126, cap126, g126, rfl, hg126, hac126, hcm126, hok126, hz126, hbs126⟩ := hcr.2 _ _ hxi
              obtain ⟨⟨_, _⟩, hf126, ha126, hd126⟩ := hok126
              have htot := ck_take hxi
              have htl := ck_le (l := cs) (i := i + 1)
              rw [htot, List.length_append] at htl
              refine D_l (v := (.i .i64 (((i : Nat)) : Int))) rfl rfl rfl (r_mv hT88) ?_
              refine D_l (v := (.b true)) rfl rfl rfl (by exact (by rw [r_gtr rfl rfl, decide_eq_true (by first | omega | assumption)])) ?_
              refine D_l (v := (.b true)) rfl rfl rfl (r_mv rfl) ?_
              refine D_gk rfl ?_
              refine D_l (v := v) rfl rfl rfl (r_mv hT84) ?_
              refine D_gk rfl ?_
              refine D_l (v := (.i .i64 (((i : Nat)) : Int))) rfl rfl rfl (r_mv hT88) ?_
              refine D_gk rfl ?_
              refine D_l (v := (.i .i64 ((((i - 1) : Nat)) : Int))) rfl rfl rfl (by exact (r_subn (a := i) (b := 1) rfl rfl (by omega) (by omega))) ?_
              refine D_gk rfl ?_
              refine D_q rfl rfl rfl (by exact Rw.row (hrw _ hH125.top3.fst) rfl (i := (i - 1)) rfl (r := [(.i .u8 xp.k), (.i .u8 xp.f), (.i .u32 xp.a), (.i .u32 b120), (.i .u16 xp.o), (.i .u16 xp.i), (.i .u32 xp.p), bl120, du120, sk120, pa120, (.sl a120 xp.d.length cap120 g120)]) hr120) fun v128 hv127 => ?_
              obtain ⟨rb129, ro130, rfl, hr131⟩ := hv127
              refine D_gk rfl ?_
              refine D_l (v := v) rfl rfl rfl (r_mv hT84) ?_
              refine D_gk rfl ?_
              refine D_l (v := (.i .i64 (((i : Nat)) : Int))) rfl rfl rfl (r_mv hT88) ?_
              refine D_gk rfl ?_
              refine D_q rfl rfl rfl (by exact Rw.row (hrw _ hH125.top3.fst) rfl (i := i) rfl (r := [(.i .u8 xi.k), (.i .u8 xi.f), (.i .u32 xi.a), (.i .u32 b126), (.i .u16 xi.o), (.i .u16 xi.i), (.i .u32 xi.p), bl126, du126, sk126, pa126, (.sl a126 xi.d.length cap126 g126)]) hr126) fun v133 hv132 => ?_
              obtain ⟨rb134, ro135, rfl, hr136⟩ := hv132
              refine D_gk rfl ?_
              refine D_r (v := (.agg [(.i .u8 xp.k), (.i .u8 xp.f), (.i .u32 xp.a), (.i .u32 b120), (.i .u16 xp.o), (.i .u16 xp.i), (.i .u32 xp.p), bl120, du120, sk120, pa120, (.sl a120 xp.d.length cap120 g120)])) rfl rfl rfl (r_ldRA (q := 0) rfl (hr131 _ (hrw _ hH125.top3.fst)) rfl) ?_
              refine D_gk rfl ?_
              refine D_r (v := (.agg [(.i .u8 xi.k), (.i .u8 xi.f), (.i .u32 xi.a), (.i .u32 b126), (.i .u16 xi.o), (.i .u16 xi.i), (.i .u32 xi.p), bl126, du126, sk126, pa126, (.sl a126 xi.d.length cap126 g126)])) rfl rfl rfl (r_ldRA (q := 0) rfl (hr136 _ (hrw _ hH125.top3.fst)) rfl) ?_
              refine D_gk rfl ?_
              refine D_call (Ev.mono (rfollows_ev xp xi _ _ _ _ _ _ _ _ _ _ _ _ hf120 hf126 ha120 hH125) fun v137 H138 hq139 => ?_)
              obtain ⟨rfl, hH140⟩ := hq139
              refine And.intro (And.intro (Or.inl rfl) (And.intro (Or.inl rfl) True.intro)) ?_
              refine D_gk rfl ?_
              refine D_l (v := (.b (!(follows xp xi)))) rfl rfl rfl (r_not rfl) ?_
              refine D_l (v := (.b (!(follows xp xi)))) rfl rfl rfl (r_pick_t rfl rfl) ?_
              refine D_nil ?_
              refine C_cond (x := (!(follows xp xi))) rfl (fun hc141 => ?_) (fun hc141 => ?_)
              ·
                try simp only [decide_eq_true_eq, decide_eq_false_iff_not, Bool.not_eq_true', Bool.not_eq_false', Bool.and_eq_true, Bool.or_eq_true, Bool.or_eq_false_iff, Bool.not_not, Bool.and_eq_false_iff] at hc141
                have hfol : follows xp xi = false := by simpa using hc141
                refine C_seq ?_
                refine C_region ?_
                refine O_p (.agg [(.i .u16 0), (.b false), (.i .u32 0), (.sl none 0 0 0)]) (r_build rfl) ?_
                refine O_store (vs := [(.i .u16 0), (.b false), (.i .u32 0), (.sl none 0 0 0)]) (c' := [(.i .u16 0), (.b false), (.i .u32 0), (.sl none 0 0 0)]) hT85 (by rfl) hH140.get2 rfl (List.cons_ne_nil _ _) (Nat.le_of_ble_eq_true rfl) rfl fun H142 hW143 => ?_
                have hH144 := hH140.wr2 hW143
                refine O_p (.b false) (r_mv rfl) ?_
                refine O_nil ?_
                refine C_ret ?_
                refine nx_ret ?_
                refine bk_ret ?_
                refine nx_ret ?_
                refine nx_ret ?_
                refine bk_ret ?_
                refine nx_ret ?_
                have hM : isM cs = false := notM_chain hxp (by rw [show i - 1 + 1 = i by omega]; exact hxi) hfol
                have hms := msgS_no hM
                have hH145 := (((hH144.sub0).sub0).sub0)
                exact ⟨.inr rfl, _, resL_cons (r_cellA (b := n1) (o := 0) (l := [.i .u16 0, .b false, .i .u32 0, .sl none 0 0 0]) hT85 hH144.get2 rfl) (resL_one (r_tmp (v := .b false) rfl)), .sl none 0 0 0, [], by rw [hms, hM]; rfl, by rw [hms]; exact Sq.nil, hH145.addnil⟩
              ·
                try simp only [decide_eq_true_eq, decide_eq_false_iff_not, Bool.not_eq_true', Bool.not_eq_false', Bool.and_eq_true, Bool.or_eq_true, Bool.or_eq_false_iff, Bool.not_not, Bool.and_eq_false_iff] at hc141
                have hfol : follows xp xi = true := by simpa using hc141
                refine C_skip ?_
                refine C_draw fun b146 H147 hbase148 hA149 => ?_
                have hH150 := hH140.keep (by have := hA149.1; omega) (fun q _ => hA149.2 q) ((hH140.old).aside hA149).ok
                refine D_l (v := (.p (some (n66, 3)))) rfl rfl rfl (r_fadd' hT87 rfl) ?_
                refine D_l (v := v) rfl rfl rfl (r_mv hT84) ?_
                refine D_l (v := (.i .i64 (((i : Nat)) : Int))) rfl rfl rfl (r_mv hT88) ?_
                refine D_q rfl rfl rfl (by exact Rw.row (hrw _ hH150.top3.fst) rfl (i := i) rfl (r := [(.i .u8 xi.k), (.i .u8 xi.f), (.i .u32 xi.a), (.i .u32 b126), (.i .u16 xi.o), (.i .u16 xi.i), (.i .u32 xi.p), bl126, du126, sk126, pa126, (.sl a126 xi.d.length cap126 g126)]) hr126) fun v152 hv151 => ?_
                obtain ⟨rb153, ro154, rfl, hr155⟩ := hv151
                refine D_l (v := (.p (some (rb153, (ro154 + 11))))) rfl rfl rfl (r_fadd' rfl rfl) ?_
                refine D_r (v := o) rfl rfl rfl (r_ld rfl hH150.get1 rfl) ?_
                refine D_r (v := (.sl a126 xi.d.length cap126 g126)) rfl rfl rfl (r_ldR (q := 11) rfl (hr155 _ (hrw _ hH150.top3.fst)) rfl) ?_
                refine D_qh rfl rfl (by exact r_appq (n := ((cs.take i).map Ck.d).flatten.length) (k := xi.d.length) (new := (bcells xi.d)) hH150.top0 hp82 rfl rfl ((hbs126 _ hH150.top3.fst).len) ((hbs126 _ hH150.top3.fst).src) ((bcells_len _).trans (Nat.mul_one _).symm) (by decide) (by decide) ((bcells_len _).trans (Nat.mul_one _).symm) (by first | omega | (simp only [List.length_take, List.length_drop, List.length_append, List.length_cons, List.length_nil, beN_len] <;> omega))) fun o156 H157 hA159 => ?_
                obtain ⟨c158, hA159, hH160⟩ := hA159
                refine And.intro (And.intro (Or.inl rfl) (And.intro (Or.inl rfl) True.intro)) ?_
                obtain ⟨qa161, ql162, qc163, qg164, rfl⟩ := hA159.isSl
                refine D_l (v := (.p (some (n66, 3)))) rfl rfl rfl (r_fadd' hT87 rfl) ?_
                refine D_store (vs := [(.sl qa161 ql162 qc163 qg164)]) (c' := [(.i .u16 x0.o), (.b (decide (((x0.f / 4) % 2) = 1))), (.i .u32 x0.p), (.sl qa161 ql162 qc163 qg164)]) rfl (by rfl) hH160.get1 rfl (List.cons_ne_nil _ _) (Nat.le_of_ble_eq_true rfl) rfl fun H165 hW166 => ?_
                have hH167 := hH160.wr1 hW166
                refine And.intro True.intro ?_
                refine D_nil ?_
                refine C_region ?_
                refine O_p (.i .i64 (((i : Nat)) : Int)) (r_mv hT88) ?_
                refine O_p (.i .i64 ((((i : Nat)) : Int) + 1)) (by exact (r_addi rfl rfl (wrap_i64 (by omega) (by omega)))) ?_
                refine O_p (.i .i64 ((((i : Nat)) : Int) + 1)) (r_mv rfl) ?_
                refine O_nil ?_
                have hH168 := ((((hH167.top3).top3).top3).top3)
                exact ⟨cs.length - (i + 1), by omega, (.sl qa161 ql162 qc163 qg164), c158, (i + 1), rfl, by omega, (by have h := hA159; rw [ck_take hxi, ← bcells_append]; exact h), chain_snoc hp83 hxi (.inr ⟨xp, hxp, hfol⟩), hH168, hT84, hT85, hT86, hT87, rfl⟩
          ·
            try simp only [decide_eq_true_eq, decide_eq_false_iff_not, Bool.not_eq_true', Bool.not_eq_false', Bool.and_eq_true, Bool.or_eq_true, Bool.or_eq_false_iff, Bool.not_not, Bool.and_eq_false_iff] at hc90
            refine C_exit ?_
            refine nx_exit ?_
            refine nx_exit ?_
            refine bk_hit ?_
            refine C_seq ?_
            refine C_region ?_
            refine O_p (.agg [(.i .u16 x0.o), (.b (decide (((x0.f / 4) % 2) = 1))), (.i .u32 x0.p), o]) (r_ldA hT87 hH89.get1 rfl) ?_
            refine O_store (vs := [(.i .u16 x0.o), (.b (decide (((x0.f / 4) % 2) = 1))), (.i .u32 x0.p), o]) (c' := [(.i .u16 x0.o), (.b (decide (((x0.f / 4) % 2) = 1))), (.i .u32 x0.p), o]) hT85 (by rfl) hH89.get2 rfl (List.cons_ne_nil _ _) (Nat.le_of_ble_eq_true rfl) rfl fun H169 hW170 => ?_
            have hH171 := hH89.wr2 hW170
            refine O_p (.b true) (r_mv rfl) ?_
            refine O_nil ?_
            refine C_ret ?_
            have hi : i = cs.length := by omega
            have hch := hp83
            have hso := hp82
            rw [hi, List.take_length] at hch hso
            have hM : isM cs = true := isM_ok hx0 hxl hk0 hf0 (by omega) hch
            have hms := msgS_ok hM hx0
            have hb4 : (!decide (4 * (x0.f / 4 % 2) = 0)) = decide (x0.f / 4 % 2 = 1) := by rw [Bool.eq_iff_iff]; simp only [Bool.not_eq_true', decide_eq_true_eq, decide_eq_false_iff_not]; omega
            have hH172 := ((hH171.sub1).sub1)
            have hH173 := ((hH172.top1).top1)
            exact ⟨.inr rfl, _, resL_cons (r_cellA (b := n1) (o := 0) (l := [(.i .u16 x0.o), (.b (decide (((x0.f / 4) % 2) = 1))), (.i .u32 x0.p), o]) hT85 hH171.get2 rfl) (resL_one (r_tmp (v := .b true) rfl)), o, co, by rw [hms, hM]; rfl, by rw [hms]; exact hso, hH173⟩
    ·
      refine C_region ?_
      refine O_p v (r_mv rfl) ?_
      refine O_p (.i .i64 (((cs.length : Nat)) : Int)) (r_lenOf rfl ((hrw _ hH4.top1.fst).lenOf hcr.1) (hrw _ hH4.top1.fst).isSl) ?_
      refine O_p (.b false) (by exact (by rw [r_eql rfl rfl, decide_eq_false (by first | omega | assumption)])) ?_
      refine O_p (.b false) (r_mv rfl) ?_
      refine O_gk rfl ?_
      refine O_p v (r_mv rfl) ?_
      refine O_gk rfl ?_
      refine O_q (by exact Rw.row (hrw _ hH4.top1.fst) rfl (i := 0) rfl (r := [(.i .u8 x0.k), (.i .u8 x0.f), (.i .u32 x0.a), (.i .u32 b9), (.i .u16 x0.o), (.i .u16 x0.i), (.i .u32 x0.p), bl9, du9, sk9, pa9, (.sl a9 x0.d.length cap9 g9)]) hr9) fun v175 hv174 => ?_
      obtain ⟨rb176, ro177, rfl, hr178⟩ := hv174
      refine O_gk rfl ?_
      refine O_p (.p (some (rb176, (ro177 + 0)))) (r_fadd' rfl rfl) ?_
      refine O_gk rfl ?_
      refine O_p (.i .u8 x0.k) (r_ldR (q := 0) rfl (hr178 _ (hrw _ hH4.top1.fst)) rfl) ?_
      refine O_gk rfl ?_
      refine O_p (.b true) (by exact (by rw [r_neq rfl rfl, decide_eq_false (by first | omega | assumption)]; rfl)) ?_
      refine O_p (.b true) (r_pick_f rfl rfl) ?_
      refine O_p (.b true) (r_mv rfl) ?_
      refine O_gf rfl ?_
      refine O_gf rfl ?_
      refine O_gf rfl ?_
      refine O_gf rfl ?_
      refine O_gf rfl ?_
      refine O_gf rfl ?_
      refine O_gf rfl ?_
      refine O_p (.b true) (r_pick_t rfl rfl) ?_
      refine O_p (.b true) (r_mv rfl) ?_
      refine O_gf rfl ?_
      refine O_gf rfl ?_
      refine O_gf rfl ?_
      refine O_gf rfl ?_
      refine O_gf rfl ?_
      refine O_gf rfl ?_
      refine O_gf rfl ?_
      refine O_gf rfl ?_
      refine O_gf rfl ?_
      refine O_p (.b true) (r_pick_t rfl rfl) ?_
      refine O_nil ?_
      refine C_cond (x := true) rfl (fun _ => ?_) (fun h => by cases h)
      refine C_seq ?_
      refine C_region ?_
      refine O_p (.agg [(.i .u16 0), (.b false), (.i .u32 0), (.sl none 0 0 0)]) (r_build rfl) ?_
      refine O_store (vs := [(.i .u16 0), (.b false), (.i .u32 0), (.sl none 0 0 0)]) (c' := [(.i .u16 0), (.b false), (.i .u32 0), (.sl none 0 0 0)]) rfl (by rfl) hH4.get0 rfl (List.cons_ne_nil _ _) (Nat.le_of_ble_eq_true rfl) rfl fun H179 hW180 => ?_
      have hH181 := hH4.wr0 hW180
      refine O_p (.b false) (r_mv rfl) ?_
      refine O_nil ?_
      refine C_ret ?_
      refine nx_ret ?_
      have hM : isM cs = false := isM_no hx0 hxl (.inl hk0)
      have hms := msgS_no hM
      have hH182 := (hH181.sub0)
      exact ⟨.inr rfl, _, resL_cons (r_cellA (b := n1) (o := 0) (l := [.i .u16 0, .b false, .i .u32 0, .sl none 0 0 0]) rfl hH181.get0 rfl) (resL_one (r_tmp (v := .b false) rfl)), .sl none 0 0 0, [], by rw [hms, hM]; rfl, by rw [hms]; exact Sq.nil, hH182.addnil⟩
end Go.Proofs.Ytadloppgokobeaa.E
