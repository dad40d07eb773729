/-
  The tape: the type table with the maps of operations.
-/
import Derived.Test.YtmcdnbmamoggoaaGreatQUb
import Derived.Test.YtmcdnbmamoggoaaGreatQZz
import Derived.Test.YtmcdnbmamoggoaaGreatQIX
import Derived.Test.YtmcdnbmamoggoaaGreatQVa
import Derived.Test.YtmcdnbmamoggoaaGreatQCk
set_option linter.unusedVariables false
set_option linter.unusedSimpArgs false
namespace Go.Proofs.YtmcdnbmamoggoaaGreat
open Go Go.Sx
def Ty2 : List (Nat × TI) := Ty ++ [
  (63, ⟨9, 1, [], 50, 0, 3, none, .i64, [.nilm], 8, false⟩)]
def T2 : Tab := { ty := Ty2, of := [52, 53], nb := [(51, 1), (29, 4), (53, 1), (57, 1)] }
theorem eq72 : EqOK Tryz.prog 50 opZ := eqB_ok (by kernel_rfl)
theorem key72 : KeyOK Tryz.prog 50 .op := keyOK_op Tryz.underlying50 eq72 (fun w b x => by kernel_rfl)
theorem key3 : KeyOK Tryz.prog 3 .int := keyOK_int Tryz.underlying3
theorem hT2 : TabOK Tryz.prog T2 := tab_ok3 key72 key3 (by kernel_rfl) (by kernel_rfl)
abbrev FB (f : Nat) (B : List Nat) (H : Hp) (A : List AV) (r : AV) (H' : Hp) : Prop := FnRB Tryz.prog f B H A r H'
/-- A builder: its number of inputs, operations, results, numbers; under these numbers. -/
def bH (b o u m : Nat) (ins : Int) (ops : List TOp) (outs : List Int) (at' : List (TOp × Int)) : Hp :=
  [(b, .cells [.int .i64 ins, .own o, .own u, .mp m]), (o, .buf 50 .op ops), (u, .buf 3 .int outs), (m, .map .op .int at')]
end Go.Proofs.YtmcdnbmamoggoaaGreat

/-
  The tape's builder: put.
-/
namespace Go.Proofs.YtmcdnbmamoggoaaGreat
open Go Go.Sx
set_option maxRecDepth 100000
set_option maxHeartbeats 8000000
noncomputable def body141 : Code := Tryz.f58.body.getD .skip
abbrev bP (ins : Int) (ops : List TOp) (outs : List Int) (at' : List (TOp × Int)) : Hp := bH 1000001 1700002 1000003 1000004 ins ops outs at'
theorem f141_old (ins : Int) (ops : List TOp) (outs : List Int) (at' : List (TOp × Int)) (x : TOp) (h : mhas .op x at' = true) :
    FB 58 [1700002] (bP ins ops outs at') [.ptr 1000001 0, .agg (Elt.op.cells x)] (.int .i64 (mget .op x 0 at')) (bP ins ops outs at') := by
  refine fnB_sound (code := body141) hT2 Tryz.func58 rfl rfl [1700002, 1000003] ?_
  conv => whnf
  refine sem_end hT2 hmx ?_
  conv => whnf
  (refine ⟨by kernel_rfl, by kernel_rfl, ?_⟩; (conv => whnf))
  refine brI (fun _ => ?_) (fun h' => absurd (show mhas .op x at' = false from h') (by rw [h]; simp))
  conv => whnf
  exact ⟨leA_refl rfl, leH_cons (leB_cells (leL_cons (leA_refl rfl) (leL_cons (leA_refl rfl) (leL_cons (leA_refl rfl) (leL_cons (leA_refl rfl) leL_nil))))) (leH_cons (leB_buf rfl) (leH_cons (leB_buf rfl) (leH_cons (leB_map rfl) leH_nil)))⟩
theorem f141_new (ins : Int) (ops : List TOp) (outs : List Int) (at' : List (TOp × Int)) (x : TOp) (h : mhas .op x at' = false) (h0 : 0 ≤ ins) (h1 : ins ≤ 1000) (h2 : ops.length ≤ 1000000) :
    FB 58 [1700002] (bP ins ops outs at') [.ptr 1000001 0, .agg (Elt.op.cells x)] (.int .i64 (ins + ops.length)) (bP ins (ops ++ [x]) outs (mput .op x (ins + ops.length) at')) := by
  refine fnB_sound (code := body141) hT2 Tryz.func58 rfl rfl [1700002, 1000003] ?_
  conv => whnf
  refine sem_cut hT2 hmx 4 (fun _ : Unit => ⟨[.ptr 1000001 0, .any, .any, .ptr 3 0, .any, .any, .any, .int .i64 (ins + ops.length)] ++ anys 42,
    [(3, .cells (Elt.op.cells x)), (39, .free), (100039, .free), (1500039, .buf 50 .op (ops ++ [x])), (1000001, .cells [.int .i64 ins, .own 1500039, .own 1000003, .mp 1000004]), (1700002, .dead), (1000003, .buf 3 .int outs), (1000004, .map .op .int at')]⟩) (fun _ => by kernel_rfl) ?_ (fun _ => ?_)
  · conv => whnf
    (refine ⟨by kernel_rfl, by kernel_rfl, ?_⟩; (conv => whnf))
    refine brI (fun h' => absurd (show mhas .op x at' = true from h') (by rw [h]; simp)) (fun _ => ?_)
    conv => whnf
    (refine ⟨by kernel_rfl, by kernel_rfl, ?_⟩; (conv => whnf))
    conv => whnf
    refine ⟨by simp only [List.length_cons, List.length_nil]; omega, ?_⟩
    conv => whnf
    (refine ⟨by kernel_rfl, by kernel_rfl, ?_⟩; (conv => whnf))
    refine ⟨(), ?_⟩
    ((conv => whnf); refine And.intro ?_ ?_; repeat' first | refine leL_cons ?_ ?_ | exact leA_any | exact leA_refl rfl | exact leL_nil | refine leH_cons ?_ ?_ | exact leH_nil | exact leB_free | exact leB_dead | refine leB_cells ?_ | exact leB_map rfl | exact leB_gst rfl | exact leA_nil rfl | refine leA_agg ?_ | refine leA_tup ?_ | fail)
    · exact leA_int (by rw [wI (by omega)])
    all_goals first | exact leB_buf rfl | exact leB_map rfl
  · refine sem_swap 1700002 1500039 (by kernel_rfl) ?_
    refine sem_end hT2 hmx ?_
    conv => whnf
    (refine ⟨by kernel_rfl, by kernel_rfl, ?_⟩; (conv => whnf))
    exact ⟨leA_refl rfl, leH_cons (leB_cells (leL_cons (leA_refl rfl) (leL_cons (leA_refl rfl) (leL_cons (leA_refl rfl) (leL_cons (leA_refl rfl) leL_nil))))) (leH_cons (leB_buf rfl) (leH_cons (leB_buf rfl) (leH_cons (leB_map rfl) leH_nil)))⟩
end Go.Proofs.YtmcdnbmamoggoaaGreat

/-
  The tape's builder: node.
-/
namespace Go.Proofs.YtmcdnbmamoggoaaGreat
open Go Go.Sx
set_option maxRecDepth 100000
set_option maxHeartbeats 8000000
abbrev BS := List TOp × List (TOp × Int)
/-- An operation's number, and the operations with it. -/
def putS (ins : Int) (x : TOp) (s : BS) : Int × BS := if mhas .op x s.2 = true then (mget .op x 0 s.2, s) else (ins + s.1.length, (s.1 ++ [x], mput .op x (ins + s.1.length) s.2))
def at0 : List Int → Int
  | a :: _ => a
  | _ => 0
def at1 : List Int → Int
  | _ :: b :: _ => b
  | _ => 0
mutual
def ndE (ins : Int) (ns : List Bytes) : Ex → BS → Int × BS
  | .mk k q s p l, st => if k = 2 then (ixP (eqS s) ns 0, st) else putS ins ⟨k, at0 (ndL ins ns l st).1, at1 (ndL ins ns l st).1, p, q⟩ (ndL ins ns l st).2
def ndL (ins : Int) (ns : List Bytes) : List Ex → BS → List Int × BS
  | [], st => ([], st)
  | x :: l, st => ((ndE ins ns x st).1 :: (ndL ins ns l (ndE ins ns x st).2).1, (ndL ins ns l (ndE ins ns x st).2).2)
end
theorem put_len (ins : Int) (x : TOp) (s : BS) : (putS ins x s).2.1.length ≤ s.1.length + 1 := by
  unfold putS; split <;> simp
mutual
theorem nd_len (ins : Int) (ns : List Bytes) : ∀ (e : Ex) (st : BS), (ndE ins ns e st).2.1.length ≤ st.1.length + sizE e
  | .mk k q s p l, st => by
    have h1 := ndL_len ins ns l st
    simp only [ndE, sizE]
    split
    · simp only; omega
    · have h2 := put_len ins ⟨k, at0 (ndL ins ns l st).1, at1 (ndL ins ns l st).1, p, q⟩ (ndL ins ns l st).2
      omega
theorem ndL_len (ins : Int) (ns : List Bytes) : ∀ (l : List Ex) (st : BS), (ndL ins ns l st).2.1.length ≤ st.1.length + sizL l
  | [], st => by simp [ndL]
  | x :: l, st => by
    have h1 := nd_len ins ns x st
    have h2 := ndL_len ins ns l (ndE ins ns x st).2
    simp only [ndL, sizL]; omega
end
theorem f141 (ins : Int) (outs : List Int) (x : TOp) (s : BS) (h0 : 0 ≤ ins) (h1 : ins ≤ 1000) (h2 : s.1.length ≤ 1000000) :
    FB 58 [1700002] (bP ins s.1 outs s.2) [.ptr 1000001 0, .agg (Elt.op.cells x)] (.int .i64 (putS ins x s).1) (bP ins (putS ins x s).2.1 outs (putS ins x s).2.2) := by
  unfold putS
  cases h : mhas .op x s.2 with
  | true => simp only [if_true]; exact f141_old ins s.1 outs s.2 x h
  | false => simp only [Bool.false_eq_true, if_false]; exact f141_new ins s.1 outs s.2 x h h0 h1 h2
abbrev IB : List Nat := [1000001, 1700002, 1000003, 1000004]
abbrev NdOK (ins : Int) (ns : List Bytes) (outs : List Int) (e : Ex) : Prop := ∀ st : BS, st.1.length + sizE e ≤ 1000000 →
  FB 30 [1700002] (bP ins st.1 outs st.2) [.ptr 1000001 0, .agg (exC e), .sl .str ns] (.int .i64 (ndE ins ns e st).1) (bP ins (ndE ins ns e st).2.1 outs (ndE ins ns e st).2.2)
noncomputable def body94 : Code := Tryz.f30.body.getD .skip
section
variable (ins : Int) (ns : List Bytes) (outs : List Int) (h0 : 0 ≤ ins) (h1 : ins ≤ 1000) (hn : ns.length < 9223372036854775808)
include hn in
theorem f94_var (s : Bytes) : NdOK ins ns outs (varE s) := by
  intro st _
  have e : ndE ins ns (varE s) st = (ixP (eqS s) ns 0, st) := by simp [varE, ndE]
  rw [e]
  refine fnB_sound (code := body94) hT2 Tryz.func30 rfl rfl [1700002, 1000003] ?_
  conv => whnf
  refine sem_end4 hT2 hmx [7, 12] ?_
  conv => whnf
  refine ⟨[], _, f106 ns s hn, ?_⟩
  conv => whnf
  (refine And.intro ?_ ?_; repeat' first | refine leL_cons ?_ ?_ | exact leA_any | exact leA_refl rfl | exact leL_nil | refine leH_cons ?_ ?_ | exact leH_nil | exact leB_free | exact leB_dead | refine leB_cells ?_ | exact leB_map rfl | exact leB_buf rfl | exact leB_gst rfl | exact leA_nil rfl | refine leA_agg ?_ | refine leA_tup ?_ | fail)
include h0 h1 in
theorem f94_num (r : Rt) : NdOK ins ns outs (ratE r) := by
  intro st hst
  have e : ndE ins ns (ratE r) st = putS ins ⟨1, 0, 0, 0, r⟩ st := by simp [ratE, ndE, ndL, at0, at1]
  have hp := f141 ins outs ⟨1, 0, 0, 0, r⟩ st h0 h1 (by simp [ratE, sizE, sizL] at hst; omega)
  rw [e]
  obtain ⟨A, hA⟩ : ∃ A, putS ins ⟨1, 0, 0, 0, r⟩ st = A := ⟨_, rfl⟩
  rw [hA] at hp ⊢
  obtain ⟨k, ops, at'⟩ := A
  refine fnB_sound (code := body94) hT2 Tryz.func30 rfl rfl [1700002, 1000003] ?_
  conv => whnf
  refine sem_end4 hT2 hmx [7, 12] ?_
  conv => whnf
  refine ⟨Unit, fun _ => True, fun _ => [(28, .int .i64 0)], fun _ => [], fun _ => 0, (), trivial, ?_, fun _ _ => ?_⟩
  · ((conv => whnf); refine And.intro ?_ ?_; repeat' first | refine leL_cons ?_ ?_ | exact leA_any | exact leA_refl rfl | exact leL_nil | refine leH_cons ?_ ?_ | exact leH_nil | exact leB_free | exact leB_dead | refine leB_cells ?_ | exact leB_map rfl | exact leB_buf rfl | exact leB_gst rfl | exact leA_nil rfl | refine leA_agg ?_ | refine leA_tup ?_ | fail)
  (refine ⟨by kernel_rfl, ?_⟩; (conv => whnf))
  refine tri_callB hT2 2 ?_
  conv => whnf
  refine ⟨58, IB, [1700002], blks (bP ins ops outs at'), .int .i64 k, rfl, by kernel_rfl, hp, ?_⟩
  conv => whnf
  (refine And.intro ?_ ?_; repeat' first | refine leL_cons ?_ ?_ | exact leA_any | exact leA_refl rfl | exact leL_nil | refine leH_cons ?_ ?_ | exact leH_nil | exact leB_free | exact leB_dead | refine leB_cells ?_ | exact leB_map rfl | exact leB_buf rfl | exact leB_gst rfl | exact leA_nil rfl | refine leA_agg ?_ | refine leA_tup ?_ | fail)
include h0 h1 in
theorem f94_one (k n : Int) (a : Ex) (hk : k ≠ 2) (ha : NdOK ins ns outs a) : NdOK ins ns outs (opE k n [a]) := by
  intro st hst
  have e : ndE ins ns (opE k n [a]) st = putS ins ⟨k, (ndE ins ns a st).1, 0, n, ⟨0, 0⟩⟩ (ndE ins ns a st).2 := by simp [opE, ndE, ndL, at0, at1, hk]
  have hsz : sizE (opE k n [a]) = sizE a + 1 := by simp [opE, sizE, sizL]
  have hl := nd_len ins ns a st
  have hpa := ha st (by omega)
  rw [e]
  obtain ⟨A, hA⟩ : ∃ A, ndE ins ns a st = A := ⟨_, rfl⟩
  rw [hA] at hpa hl ⊢
  obtain ⟨i0, st1⟩ := A
  have hp := f141 ins outs ⟨k, i0, 0, n, ⟨0, 0⟩⟩ st1 h0 h1 (by simp only at hl; omega)
  simp only
  obtain ⟨B, hB⟩ : ∃ B, putS ins ⟨k, i0, 0, n, ⟨0, 0⟩⟩ st1 = B := ⟨_, rfl⟩
  rw [hB] at hp ⊢
  obtain ⟨j, ops, at'⟩ := B
  refine fnB_sound (code := body94) hT2 Tryz.func30 rfl rfl [1700002, 1000003] ?_
  conv => whnf
  refine sem_end4 hT2 hmx [7, 12] ?_
  conv => whnf
  refine brI (fun h => absurd (show k = 2 by simpa [opE, Ex.k] using h) hk) (fun _ => ?_)
  conv => whnf
  refine ⟨Nat, fun x => x ≤ 1, fun x => [(28, .int .i64 x)], fun x => match x with
    | 0 => [(7, .cells (Elt.op.cells ⟨k, 0, 0, n, ⟨0, 0⟩⟩)), (1700002, .buf 50 .op st.1), (1000004, .map .op .int st.2)]
    | _ => [(7, .cells (Elt.op.cells ⟨k, i0, 0, n, ⟨0, 0⟩⟩)), (1700002, .buf 50 .op st1.1), (1000004, .map .op .int st1.2)], fun x => 1 - x, 0, by omega, ?_, fun x hx => ?_⟩
  · ((conv => whnf); refine And.intro ?_ ?_; repeat' first | refine leL_cons ?_ ?_ | exact leA_any | exact leA_refl rfl | exact leL_nil | refine leH_cons ?_ ?_ | exact leH_nil | exact leB_free | exact leB_dead | refine leB_cells ?_ | exact leB_map rfl | exact leB_buf rfl | exact leB_gst rfl | exact leA_nil rfl | refine leA_agg ?_ | refine leA_tup ?_ | fail)
  rcases (show x = 0 ∨ x = 1 by omega) with rfl | rfl
  · (refine ⟨by kernel_rfl, ?_⟩; (conv => whnf))
    refine ix0 ?_
    conv => whnf
    refine tri_callB hT2 3 ?_
    conv => whnf
    refine ⟨30, IB, [1700002], blks (bP ins st1.1 outs st1.2), .int .i64 i0, rfl, by kernel_rfl, hpa, ?_⟩
    conv => whnf
    refine ⟨1, by omega, by decide, ?_⟩
    ((conv => whnf); refine And.intro ?_ ?_; repeat' first | refine leL_cons ?_ ?_ | exact leA_any | exact leA_refl rfl | exact leL_nil | refine leH_cons ?_ ?_ | exact leH_nil | exact leB_free | exact leB_dead | refine leB_cells ?_ | exact leB_map rfl | exact leB_buf rfl | exact leB_gst rfl | exact leA_nil rfl | refine leA_agg ?_ | refine leA_tup ?_ | fail)
  · (refine ⟨by kernel_rfl, ?_⟩; (conv => whnf))
    refine tri_callB hT2 2 ?_
    conv => whnf
    refine ⟨58, IB, [1700002], blks (bP ins ops outs at'), .int .i64 j, rfl, by kernel_rfl, hp, ?_⟩
    conv => whnf
    (refine And.intro ?_ ?_; repeat' first | refine leL_cons ?_ ?_ | exact leA_any | exact leA_refl rfl | exact leL_nil | refine leH_cons ?_ ?_ | exact leH_nil | exact leB_free | exact leB_dead | refine leB_cells ?_ | exact leB_map rfl | exact leB_buf rfl | exact leB_gst rfl | exact leA_nil rfl | refine leA_agg ?_ | refine leA_tup ?_ | fail)
include h0 h1 in
theorem f94_two (k : Int) (a b : Ex) (hk : k ≠ 2) (ha : NdOK ins ns outs a) (hb : NdOK ins ns outs b) : NdOK ins ns outs (opE k 0 [a, b]) := by
  intro st hst
  have e : ndE ins ns (opE k 0 [a, b]) st = putS ins ⟨k, (ndE ins ns a st).1, (ndE ins ns b (ndE ins ns a st).2).1, 0, ⟨0, 0⟩⟩ (ndE ins ns b (ndE ins ns a st).2).2 := by simp [opE, ndE, ndL, at0, at1, hk]
  have hsz : sizE (opE k 0 [a, b]) = sizE a + sizE b + 1 := by simp [opE, sizE, sizL]
  have hl := nd_len ins ns a st
  have hpa := ha st (by omega)
  rw [e]
  obtain ⟨A, hA⟩ : ∃ A, ndE ins ns a st = A := ⟨_, rfl⟩
  rw [hA] at hpa hl ⊢
  obtain ⟨i0, st1⟩ := A
  simp only at hl ⊢
  have hl2 := nd_len ins ns b st1
  have hpb := hb st1 (by omega)
  obtain ⟨C, hC⟩ : ∃ C, ndE ins ns b st1 = C := ⟨_, rfl⟩
  rw [hC] at hpb hl2 ⊢
  obtain ⟨i1, st2⟩ := C
  simp only at hl2 ⊢
  have hp := f141 ins outs ⟨k, i0, i1, 0, ⟨0, 0⟩⟩ st2 h0 h1 (by omega)
  obtain ⟨B, hB⟩ : ∃ B, putS ins ⟨k, i0, i1, 0, ⟨0, 0⟩⟩ st2 = B := ⟨_, rfl⟩
  rw [hB] at hp ⊢
  obtain ⟨j, ops, at'⟩ := B
  refine fnB_sound (code := body94) hT2 Tryz.func30 rfl rfl [1700002, 1000003] ?_
  conv => whnf
  refine sem_end4 hT2 hmx [7, 12] ?_
  conv => whnf
  refine brI (fun h => absurd (show k = 2 by simpa [opE, Ex.k] using h) hk) (fun _ => ?_)
  conv => whnf
  refine ⟨Nat, fun x => x ≤ 2, fun x => [(28, .int .i64 x)], fun x => match x with
    | 0 => [(7, .cells (Elt.op.cells ⟨k, 0, 0, 0, ⟨0, 0⟩⟩)), (1700002, .buf 50 .op st.1), (1000004, .map .op .int st.2)]
    | 1 => [(7, .cells (Elt.op.cells ⟨k, i0, 0, 0, ⟨0, 0⟩⟩)), (1700002, .buf 50 .op st1.1), (1000004, .map .op .int st1.2)]
    | _ => [(7, .cells (Elt.op.cells ⟨k, i0, i1, 0, ⟨0, 0⟩⟩)), (1700002, .buf 50 .op st2.1), (1000004, .map .op .int st2.2)], fun x => 2 - x, 0, by omega, ?_, fun x hx => ?_⟩
  · ((conv => whnf); refine And.intro ?_ ?_; repeat' first | refine leL_cons ?_ ?_ | exact leA_any | exact leA_refl rfl | exact leL_nil | refine leH_cons ?_ ?_ | exact leH_nil | exact leB_free | exact leB_dead | refine leB_cells ?_ | exact leB_map rfl | exact leB_buf rfl | exact leB_gst rfl | exact leA_nil rfl | refine leA_agg ?_ | refine leA_tup ?_ | fail)
  rcases (show x = 0 ∨ x = 1 ∨ x = 2 by omega) with rfl | rfl | rfl
  · (refine ⟨by kernel_rfl, ?_⟩; (conv => whnf))
    refine ix0 ?_
    conv => whnf
    refine tri_callB hT2 3 ?_
    conv => whnf
    refine ⟨30, IB, [1700002], blks (bP ins st1.1 outs st1.2), .int .i64 i0, rfl, by kernel_rfl, hpa, ?_⟩
    conv => whnf
    refine ⟨1, by omega, by decide, ?_⟩
    ((conv => whnf); refine And.intro ?_ ?_; repeat' first | refine leL_cons ?_ ?_ | exact leA_any | exact leA_refl rfl | exact leL_nil | refine leH_cons ?_ ?_ | exact leH_nil | exact leB_free | exact leB_dead | refine leB_cells ?_ | exact leB_map rfl | exact leB_buf rfl | exact leB_gst rfl | exact leA_nil rfl | refine leA_agg ?_ | refine leA_tup ?_ | fail)
  · (refine ⟨by kernel_rfl, ?_⟩; (conv => whnf))
    refine ix1 ?_
    conv => whnf
    refine tri_callB hT2 3 ?_
    conv => whnf
    refine ⟨30, IB, [1700002], blks (bP ins st2.1 outs st2.2), .int .i64 i1, rfl, by kernel_rfl, hpb, ?_⟩
    conv => whnf
    refine ⟨2, by omega, by decide, ?_⟩
    ((conv => whnf); refine And.intro ?_ ?_; repeat' first | refine leL_cons ?_ ?_ | exact leA_any | exact leA_refl rfl | exact leL_nil | refine leH_cons ?_ ?_ | exact leH_nil | exact leB_free | exact leB_dead | refine leB_cells ?_ | exact leB_map rfl | exact leB_buf rfl | exact leB_gst rfl | exact leA_nil rfl | refine leA_agg ?_ | refine leA_tup ?_ | fail)
  · (refine ⟨by kernel_rfl, ?_⟩; (conv => whnf))
    refine tri_callB hT2 2 ?_
    conv => whnf
    refine ⟨58, IB, [1700002], blks (bP ins ops outs at'), .int .i64 j, rfl, by kernel_rfl, hp, ?_⟩
    conv => whnf
    (refine And.intro ?_ ?_; repeat' first | refine leL_cons ?_ ?_ | exact leA_any | exact leA_refl rfl | exact leL_nil | refine leH_cons ?_ ?_ | exact leH_nil | exact leB_free | exact leB_dead | refine leB_cells ?_ | exact leB_map rfl | exact leB_buf rfl | exact leB_gst rfl | exact leA_nil rfl | refine leA_agg ?_ | refine leA_tup ?_ | fail)
include h0 h1 hn in
theorem f94 {e : Ex} (h : VT e) : NdOK ins ns outs e := by
  induction h with
  | num r _ => exact f94_num ins ns outs h0 h1 r
  | var s _ => exact f94_var ins ns outs hn s
  | un k a hk _ ih => exact f94_one ins ns outs h0 h1 k 0 a (K1_ne hk).2 ih
  | pow n a _ _ _ ih => exact f94_one ins ns outs h0 h1 8 n a (by omega) ih
  | bin k a b hk _ _ ih1 ih2 => exact f94_two ins ns outs h0 h1 k a b (K2_ne hk).2 ih1 ih2
end
end Go.Proofs.YtmcdnbmamoggoaaGreat

/-
  The tape's builder: start, full; twice.
-/
namespace Go.Proofs.YtmcdnbmamoggoaaGreat
open Go Go.Sx
set_option maxRecDepth 100000
set_option maxHeartbeats 8000000
theorem c138 (w : World) : Calls Tryz.prog 55 #[.slice none 0 0] w fun e w' => e = .returned (.slice none 0 0) ∧ w' = w := by
  go_enter Tryz.func55, Tryz.ntmps55
  go_wp2
  rename_i Kx hx
  refine hx _ _ ?_
  simp only [Option.isNone]
  go_wp2
  go_ret
  exact ⟨rfl, rfl⟩
theorem c139 (w : World) : Calls Tryz.prog 56 #[.slice none 0 0] w fun e w' => e = .returned (.slice none 0 0) ∧ w' = w := by
  go_enter Tryz.func56, Tryz.ntmps56
  go_wp2
  rename_i Kx hx
  refine hx _ _ ?_
  simp only [Option.isNone]
  go_wp2
  go_ret
  exact ⟨rfl, rfl⟩
theorem f138 : Fn 55 [] [.nilsl] .nilsl [] := by
  refine FnOK.pure ⟨_, Tryz.func55, rfl, rfl⟩ fun ρ vs w hv => ?_
  match vs, hv with
  | [a], ⟨ha, _⟩ =>
    obtain rfl : a = .slice none 0 0 := ha
    refine (c138 w).mono ?_
    rintro e w' ⟨rfl, rfl⟩
    exact ⟨⟨_, rfl, rfl⟩, rfl⟩
theorem f139 : Fn 56 [] [.nilsl] .nilsl [] := by
  refine FnOK.pure ⟨_, Tryz.func56, rfl, rfl⟩ fun ρ vs w hv => ?_
  match vs, hv with
  | [a], ⟨ha, _⟩ =>
    obtain rfl : a = .slice none 0 0 := ha
    refine (c139 w).mono ?_
    rintro e w' ⟨rfl, rfl⟩
    exact ⟨⟨_, rfl, rfl⟩, rfl⟩
theorem f140 : Fn 57 [] [.nilsl] (.fn 76 [.ptr 2000000 0]) [(2000000, .cells [.nilsl])] := by
  refine fnT hT2 hmx Tryz.func57 rfl rfl (ex := [1]) ?_
  conv => whnf
  exact ⟨leA_refl rfl, leH_cons (leB_cells (leL_cons (leA_refl rfl) leL_nil)) leH_nil⟩
theorem f160 (l : Nat) (J : GJ) : Fn 76 [(CBID, .gst J), (1000001, .cells [.nilsl])] [.cb l, .ptr 1000001 0] (.tup []) [(CBID, .gst J), (1000001, .cells [.nilsl])] := by
  refine fnT hT2 hmx Tryz.func76 rfl rfl (ex := []) ?_
  conv => whnf
  refine ⟨Unit, fun _ => True, fun _ => [(3, .int .i64 (-1))], fun _ => [], fun _ => 0, (), trivial, ?_, fun _ _ => ?_⟩
  · ((conv => whnf); refine And.intro ?_ ?_; repeat' first | refine leL_cons ?_ ?_ | exact leA_any | exact leA_refl rfl | exact leL_nil | refine leH_cons ?_ ?_ | exact leH_nil | exact leB_free | exact leB_dead | refine leB_cells ?_ | exact leB_map rfl | exact leB_gst rfl | exact leA_nil rfl | refine leA_agg ?_ | refine leA_tup ?_ | fail)
  (refine ⟨by kernel_rfl, ?_⟩; (conv => whnf))
  exact ⟨leA_refl rfl, leH_cons (leB_gst rfl) (leH_cons (leB_cells (leL_cons (leA_refl rfl) leL_nil)) leH_nil)⟩
theorem f93 (n : Int) : Fn 29 [] [.agg [.int .i64 n, .nilsl, .nilsl]] (.ptr 2000000 0) (bH 2000000 2000001 2000002 2000003 n [] [] []) := by
  refine fnT hT2 hmx Tryz.func29 rfl rfl (ex := [17, 100000, 100001, 15]) ?_
  conv => whnf
  refine ⟨[], .nilsl, f138, ?_⟩
  conv => whnf
  refine ⟨[], .nilsl, f139, ?_⟩
  conv => whnf
  (refine ⟨by kernel_rfl, by kernel_rfl, ?_⟩; (conv => whnf))
  refine ⟨[], [.cells [.nilsl]], _, f140, ?_⟩
  conv => whnf
  refine ⟨[], Unit, Empty, fun _ => [], fun _ => true, fun _ => Code.skip, fun y => (nomatch y), fun x _ => x, (), (), .tup [], [.cells [.nilsl]], rfl, rfl, by kernel_rfl, by kernel_rfl, fun _ => ⟨rfl, rfl⟩, fun y => (nomatch y), fun l J _ => (f160 l (J ())).sw [(23, 1000001)] rfl, fun _ y => (nomatch y), ?_⟩
  conv => whnf
  refine ⟨leA_refl rfl, leH_cons (leB_cells (leL_cons (leA_refl rfl) (leL_cons ?_ (leL_cons ?_ (leL_cons (leA_refl rfl) leL_nil))))) (leH_cons ⟨rfl, rfl⟩ (leH_cons ⟨rfl, rfl⟩ (leH_cons (leB_map rfl) leH_nil)))⟩
  · exact trivial
  · exact trivial
noncomputable def body95 : Code := Tryz.f31.body.getD .skip
theorem f95 (ins : Int) (ops : List TOp) (outs : List Int) (at' : List (TOp × Int)) : FB 31 [] (bH 1000001 1000002 1000003 1000004 ins ops outs at') [.ptr 1000001 0] (.bool (decide (200 < ops.length) || decide (200 < outs.length))) (bH 1000001 1000002 1000003 1000004 ins ops outs at') := by
  refine fnB_sound (code := body95) hT2 Tryz.func31 rfl rfl [1000002, 1000003] ?_
  conv => whnf
  refine sem_end4 hT2 hmx [] ?_
  conv => whnf
  refine brI (fun h1 => ?_) (fun h1 => ?_)
  · conv => whnf
    have h1 : 200 < ops.length := by simp only [decide_eq_true_eq] at h1; omega
    (refine And.intro ?_ ?_; repeat' first | refine leL_cons ?_ ?_ | exact leA_any | exact leA_refl rfl | exact leL_nil | refine leH_cons ?_ ?_ | exact leH_nil | exact leB_free | exact leB_dead | refine leB_cells ?_ | exact leB_map rfl | exact leB_buf rfl | exact leB_gst rfl | exact leA_nil rfl | refine leA_agg ?_ | refine leA_tup ?_ | fail)
    exact leA_bool (by simp [h1])
  · conv => whnf
    have h1 : ¬ 200 < ops.length := by simp only [decide_eq_false_iff_not] at h1; omega
    (refine And.intro ?_ ?_; repeat' first | refine leL_cons ?_ ?_ | exact leA_any | exact leA_refl rfl | exact leL_nil | refine leH_cons ?_ ?_ | exact leH_nil | exact leB_free | exact leB_dead | refine leB_cells ?_ | exact leB_map rfl | exact leB_buf rfl | exact leB_gst rfl | exact leA_nil rfl | refine leA_agg ?_ | refine leA_tup ?_ | fail)
    refine leA_bool ?_
    rw [decide_eq_false h1, Bool.false_or]
    by_cases h2 : 200 < outs.length
    · rw [decide_eq_true h2]; exact decide_eq_true (by omega)
    · rw [decide_eq_false h2]; exact decide_eq_false (by omega)
/-- A name occurs twice. -/
def twS : List Bytes → Nat → List Bytes → Bool
  | ns, i, n :: l => (ns.take i).any (eqS n) || twS ns (i + 1) l
  | _, _, [] => false
def twB (ns : List Bytes) : Bool := twS ns 0 ns
theorem f90 (ns : List Bytes) (hn : ns.length < 9223372036854775808) : Fn 25 [] [.sl .str ns] (.bool (twB ns)) [] := by
  obtain ⟨A, hA⟩ : ∃ A, twB ns = A := ⟨_, rfl⟩
  rw [hA]
  refine fnT hT2 hmx Tryz.func25 rfl rfl (ex := []) ?_
  conv => whnf
  refine ⟨Nat, fun i => i ≤ ns.length ∧ twS ns i (ns.drop i) = A, fun i => [(7, .int .i64 i)], fun _ => [], fun i => ns.length - i, 0, ⟨by simp, by simpa [twB] using hA⟩, ?_, fun i hi => ?_⟩
  · ((conv => whnf); refine And.intro ?_ ?_; repeat' first | refine leL_cons ?_ ?_ | exact leA_any | exact leA_refl rfl | exact leL_nil | refine leH_cons ?_ ?_ | exact leH_nil | exact leB_free | exact leB_dead | refine leB_cells ?_ | exact leB_map rfl | exact leB_gst rfl | exact leA_nil rfl | refine leA_agg ?_ | refine leA_tup ?_ | fail)
  (refine ⟨by kernel_rfl, ?_⟩; (conv => whnf))
  obtain ⟨hi1, hi2⟩ := hi
  refine brI (fun h1 => ?_) (fun h1 => ?_)
  · conv => whnf
    have hi : i < ns.length := by simp only [decide_eq_true_eq] at h1; omega
    refine ⟨⟨by omega, by omega⟩, fun n hx => ?_⟩
    have hx : ns[i]? = some n := by simpa using hx
    rw [drop_get hx] at hi2
    simp only [twS] at hi2
    conv => whnf
    refine ⟨⟨by omega, by omega, by omega⟩, ?_⟩
    conv => whnf
    refine cbI [] ((ns.take i).any (eqS n)) (f55 (ns.take i) n (by rw [List.length_take]; omega)) (fun h2 => ?_) (fun h2 => ?_)
    · conv => whnf
      rw [h2] at hi2
      exact ⟨leA_bool (by simpa using hi2), leH_nil⟩
    · conv => whnf
      rw [h2] at hi2
      refine ⟨i + 1, ⟨by omega, by simpa using hi2⟩, by show ns.length - (i + 1) < ns.length - i; omega, ?_⟩
      ((conv => whnf); refine And.intro ?_ ?_; repeat' first | refine leL_cons ?_ ?_ | exact leA_any | exact leA_refl rfl | exact leL_nil | refine leH_cons ?_ ?_ | exact leH_nil | exact leB_free | exact leB_dead | refine leB_cells ?_ | exact leB_map rfl | exact leB_gst rfl | exact leA_nil rfl | refine leA_agg ?_ | refine leA_tup ?_ | fail)
      exact leA_int (by rw [wI (by omega)]; omega)
  · conv => whnf
    have hi : ¬ i < ns.length := by simp only [decide_eq_false_iff_not] at h1; omega
    rw [List.drop_of_length_le (by omega)] at hi2
    exact ⟨leA_bool (by simpa [twS] using hi2), leH_nil⟩
end Go.Proofs.YtmcdnbmamoggoaaGreat

/-
  The tape: the tests of Compile.
-/
namespace Go.Proofs.YtmcdnbmamoggoaaGreat
open Go Go.Sx
set_option maxRecDepth 100000
set_option maxHeartbeats 8000000
def badE (e : Ex) : Bool := !okT e
theorem f87 (e : Ex) (he : Sm e) : Fn 20 [] [.agg (exC e)] (.bool (badE e)) [] := by
  refine fnT hT2 hmx Tryz.func20 rfl rfl (ex := []) ?_
  conv => whnf
  refine cbI [] (okT e) (f17 e he) (fun h => ?_) (fun h => ?_)
  · conv => whnf
    exact ⟨leA_bool (by simp [badE, h]), leH_nil⟩
  · conv => whnf
    exact ⟨leA_bool (by simp [badE, h]), leH_nil⟩
theorem f114b (l : List Ex) (hl : ∀ x ∈ l, Sm x) (hlen : l.length < 9223372036854775808) : Fn 46 [] [.sl .ex l, .fn 20 []] (.int .i64 (ixP badE l 0)) [] := by
  refine fnT hT2 hmx Tryz.func46 rfl rfl (ex := []) ?_
  conv => whnf
  refine ⟨Nat, fun i => i ≤ l.length ∧ ixP badE (l.drop i) i = ixP badE l 0, fun i => [(8, .int .i64 i)], fun _ => [], fun i => l.length - i, 0, ⟨by simp, rfl⟩, ?_, fun i hi => ?_⟩
  · ((conv => whnf); refine And.intro ?_ ?_; repeat' first | refine leL_cons ?_ ?_ | exact leA_any | exact leA_refl rfl | exact leL_nil | refine leH_cons ?_ ?_ | exact leH_nil | exact leB_free | exact leB_dead | refine leB_cells ?_ | exact leB_map rfl | exact leB_gst rfl | exact leA_nil rfl | refine leA_agg ?_ | refine leA_tup ?_ | fail)
  (refine ⟨by kernel_rfl, ?_⟩; (conv => whnf))
  obtain ⟨hi1, hi2⟩ := hi
  refine brI (fun h1 => ?_) (fun h1 => ?_)
  · conv => whnf
    have hi : i < l.length := by simp only [decide_eq_true_eq] at h1; omega
    refine ⟨⟨by omega, by omega⟩, fun x hx => ?_⟩
    have hx : l[i]? = some x := by simpa using hx
    have hm := List.mem_of_getElem? hx
    rw [drop_get hx] at hi2
    simp only [ixP] at hi2
    conv => whnf
    refine cbI [] (badE x) (f87 x (hl x hm)) (fun h2 => ?_) (fun h2 => ?_)
    · conv => whnf
      rw [if_pos h2] at hi2
      exact ⟨leA_int hi2, leH_nil⟩
    · conv => whnf
      rw [if_neg (by rw [h2]; simp)] at hi2
      refine ⟨i + 1, ⟨by omega, hi2⟩, by show l.length - (i + 1) < l.length - i; omega, ?_⟩
      ((conv => whnf); refine And.intro ?_ ?_; repeat' first | refine leL_cons ?_ ?_ | exact leA_any | exact leA_refl rfl | exact leL_nil | refine leH_cons ?_ ?_ | exact leH_nil | exact leB_free | exact leB_dead | refine leB_cells ?_ | exact leB_map rfl | exact leB_gst rfl | exact leA_nil rfl | refine leA_agg ?_ | refine leA_tup ?_ | fail)
      exact leA_int (by rw [wI (by omega)]; omega)
  · conv => whnf
    have hi : ¬ i < l.length := by simp only [decide_eq_false_iff_not] at h1; omega
    rw [List.drop_of_length_le (by omega)] at hi2
    exact ⟨leA_int hi2, leH_nil⟩
theorem f60b (l : List Ex) (hl : ∀ x ∈ l, Sm x) (hlen : l.length < 9223372036854775808) : Fn 19 [] [.sl .ex l, .fn 20 []] (.bool (l.any badE)) [] := by
  refine fnT hT2 hmx Tryz.func19 rfl rfl (ex := []) ?_
  conv => whnf
  refine ⟨[], _, f114b l hl hlen, ?_⟩
  conv => whnf
  exact ⟨leA_bool (by rw [Bool.eq_iff_iff, decide_eq_true_eq]; exact ixP_iff badE l 0), leH_nil⟩
def badN (n : Bytes) : Bool := !nameB n
theorem f88 (n : Bytes) (hn : n.length < 9223372036854775808) : Fn 23 [] [.str n] (.bool (badN n)) [] := by
  refine fnT hT2 hmx Tryz.func23 rfl rfl (ex := []) ?_
  conv => whnf
  refine cbI [] (nameB n) (f89 n hn) (fun h => ?_) (fun h => ?_)
  · conv => whnf
    exact ⟨leA_bool (by simp [badN, h]), leH_nil⟩
  · conv => whnf
    exact ⟨leA_bool (by simp [badN, h]), leH_nil⟩
theorem f73b (l : List Bytes) (hl : ∀ x ∈ l, x.length < 9223372036854775808) (hlen : l.length < 9223372036854775808) : Fn 48 [] [.sl .str l, .fn 23 []] (.int .i64 (ixP badN l 0)) [] := by
  refine fnT hT2 hmx Tryz.func48 rfl rfl (ex := []) ?_
  conv => whnf
  refine ⟨Nat, fun i => i ≤ l.length ∧ ixP badN (l.drop i) i = ixP badN l 0, fun i => [(8, .int .i64 i)], fun _ => [], fun i => l.length - i, 0, ⟨by simp, rfl⟩, ?_, fun i hi => ?_⟩
  · ((conv => whnf); refine And.intro ?_ ?_; repeat' first | refine leL_cons ?_ ?_ | exact leA_any | exact leA_refl rfl | exact leL_nil | refine leH_cons ?_ ?_ | exact leH_nil | exact leB_free | exact leB_dead | refine leB_cells ?_ | exact leB_map rfl | exact leB_gst rfl | exact leA_nil rfl | refine leA_agg ?_ | refine leA_tup ?_ | fail)
  (refine ⟨by kernel_rfl, ?_⟩; (conv => whnf))
  obtain ⟨hi1, hi2⟩ := hi
  refine brI (fun h1 => ?_) (fun h1 => ?_)
  · conv => whnf
    have hi : i < l.length := by simp only [decide_eq_true_eq] at h1; omega
    refine ⟨⟨by omega, by omega⟩, fun x hx => ?_⟩
    have hx : l[i]? = some x := by simpa using hx
    have hm := List.mem_of_getElem? hx
    rw [drop_get hx] at hi2
    simp only [ixP] at hi2
    conv => whnf
    refine cbI [] (badN x) (f88 x (hl x hm)) (fun h2 => ?_) (fun h2 => ?_)
    · conv => whnf
      rw [if_pos h2] at hi2
      exact ⟨leA_int hi2, leH_nil⟩
    · conv => whnf
      rw [if_neg (by rw [h2]; simp)] at hi2
      refine ⟨i + 1, ⟨by omega, hi2⟩, by show l.length - (i + 1) < l.length - i; omega, ?_⟩
      ((conv => whnf); refine And.intro ?_ ?_; repeat' first | refine leL_cons ?_ ?_ | exact leA_any | exact leA_refl rfl | exact leL_nil | refine leH_cons ?_ ?_ | exact leH_nil | exact leB_free | exact leB_dead | refine leB_cells ?_ | exact leB_map rfl | exact leB_gst rfl | exact leA_nil rfl | refine leA_agg ?_ | refine leA_tup ?_ | fail)
      exact leA_int (by rw [wI (by omega)]; omega)
  · conv => whnf
    have hi : ¬ i < l.length := by simp only [decide_eq_false_iff_not] at h1; omega
    rw [List.drop_of_length_le (by omega)] at hi2
    exact ⟨leA_int hi2, leH_nil⟩
theorem f32b (l : List Bytes) (hl : ∀ x ∈ l, x.length < 9223372036854775808) (hlen : l.length < 9223372036854775808) : Fn 22 [] [.sl .str l, .fn 23 []] (.bool (l.any badN)) [] := by
  refine fnT hT2 hmx Tryz.func22 rfl rfl (ex := []) ?_
  conv => whnf
  refine ⟨[], _, f73b l hl hlen, ?_⟩
  conv => whnf
  exact ⟨leA_bool (by rw [Bool.eq_iff_iff, decide_eq_true_eq]; exact ixP_iff badN l 0), leH_nil⟩
theorem f97 (n : Bytes) (hn : n.length < 9223372036854775808) : Fn 36 [] [.str n] (.bool (badN n)) [] := by
  refine fnT hT2 hmx Tryz.func36 rfl rfl (ex := []) ?_
  conv => whnf
  refine cbI [] (nameB n) (f89 n hn) (fun h => ?_) (fun h => ?_)
  · conv => whnf
    exact ⟨leA_bool (by simp [badN, h]), leH_nil⟩
  · conv => whnf
    exact ⟨leA_bool (by simp [badN, h]), leH_nil⟩
theorem f73d (l : List Bytes) (hl : ∀ x ∈ l, x.length < 9223372036854775808) (hlen : l.length < 9223372036854775808) : Fn 48 [] [.sl .str l, .fn 36 []] (.int .i64 (ixP badN l 0)) [] := by
  refine fnT hT2 hmx Tryz.func48 rfl rfl (ex := []) ?_
  conv => whnf
  refine ⟨Nat, fun i => i ≤ l.length ∧ ixP badN (l.drop i) i = ixP badN l 0, fun i => [(8, .int .i64 i)], fun _ => [], fun i => l.length - i, 0, ⟨by simp, rfl⟩, ?_, fun i hi => ?_⟩
  · ((conv => whnf); refine And.intro ?_ ?_; repeat' first | refine leL_cons ?_ ?_ | exact leA_any | exact leA_refl rfl | exact leL_nil | refine leH_cons ?_ ?_ | exact leH_nil | exact leB_free | exact leB_dead | refine leB_cells ?_ | exact leB_map rfl | exact leB_gst rfl | exact leA_nil rfl | refine leA_agg ?_ | refine leA_tup ?_ | fail)
  (refine ⟨by kernel_rfl, ?_⟩; (conv => whnf))
  obtain ⟨hi1, hi2⟩ := hi
  refine brI (fun h1 => ?_) (fun h1 => ?_)
  · conv => whnf
    have hi : i < l.length := by simp only [decide_eq_true_eq] at h1; omega
    refine ⟨⟨by omega, by omega⟩, fun x hx => ?_⟩
    have hx : l[i]? = some x := by simpa using hx
    have hm := List.mem_of_getElem? hx
    rw [drop_get hx] at hi2
    simp only [ixP] at hi2
    conv => whnf
    refine cbI [] (badN x) (f97 x (hl x hm)) (fun h2 => ?_) (fun h2 => ?_)
    · conv => whnf
      rw [if_pos h2] at hi2
      exact ⟨leA_int hi2, leH_nil⟩
    · conv => whnf
      rw [if_neg (by rw [h2]; simp)] at hi2
      refine ⟨i + 1, ⟨by omega, hi2⟩, by show l.length - (i + 1) < l.length - i; omega, ?_⟩
      ((conv => whnf); refine And.intro ?_ ?_; repeat' first | refine leL_cons ?_ ?_ | exact leA_any | exact leA_refl rfl | exact leL_nil | refine leH_cons ?_ ?_ | exact leH_nil | exact leB_free | exact leB_dead | refine leB_cells ?_ | exact leB_map rfl | exact leB_gst rfl | exact leA_nil rfl | refine leA_agg ?_ | refine leA_tup ?_ | fail)
      exact leA_int (by rw [wI (by omega)]; omega)
  · conv => whnf
    have hi : ¬ i < l.length := by simp only [decide_eq_false_iff_not] at h1; omega
    rw [List.drop_of_length_le (by omega)] at hi2
    exact ⟨leA_int hi2, leH_nil⟩
theorem f32d (l : List Bytes) (hl : ∀ x ∈ l, x.length < 9223372036854775808) (hlen : l.length < 9223372036854775808) : Fn 22 [] [.sl .str l, .fn 36 []] (.bool (l.any badN)) [] := by
  refine fnT hT2 hmx Tryz.func22 rfl rfl (ex := []) ?_
  conv => whnf
  refine ⟨[], _, f73d l hl hlen, ?_⟩
  conv => whnf
  exact ⟨leA_bool (by rw [Bool.eq_iff_iff, decide_eq_true_eq]; exact ixP_iff badN l 0), leH_nil⟩
abbrev Hn (ns : List Bytes) : Hp := [(1000003, .cells [.sl .str ns])]
theorem leHn (ns : List Bytes) {h h' : Hp} : leH h h' (Hn ns) (Hn ns) := leH_cons (leB_cells (leL_cons (leA_refl rfl) leL_nil)) leH_nil
/-- Not among the names. -/
def newN (ns : List Bytes) (n : Bytes) : Bool := !ns.any (eqS n)
theorem f92 (ns : List Bytes) (n : Bytes) (hns : ns.length < 9223372036854775808) : Fn 27 (Hn ns) [.str n, .ptr 1000003 0] (.bool (newN ns n)) (Hn ns) := by
  refine fnT hT2 hmx Tryz.func27 rfl rfl (ex := []) ?_
  conv => whnf
  refine cbI [] (ns.any (eqS n)) (f55 ns n hns) (fun h => ?_) (fun h => ?_)
  · conv => whnf
    exact ⟨leA_bool (by simp only [newN, h]), leHn ns⟩
  · conv => whnf
    exact ⟨leA_bool (by simp only [newN, h]), leHn ns⟩
theorem f73c (ns : List Bytes) (hns : ns.length < 9223372036854775808) (l : List Bytes) (hlen : l.length < 9223372036854775808) : Fn 48 (Hn ns) [.sl .str l, .fn 27 [.ptr 1000003 0]] (.int .i64 (ixP (newN ns) l 0)) (Hn ns) := by
  refine fnT hT2 hmx Tryz.func48 rfl rfl (ex := []) ?_
  conv => whnf
  refine ⟨Nat, fun i => i ≤ l.length ∧ ixP (newN ns) (l.drop i) i = ixP (newN ns) l 0, fun i => [(8, .int .i64 i)], fun _ => [], fun i => l.length - i, 0, ⟨by simp, rfl⟩, ?_, fun i hi => ?_⟩
  · ((conv => whnf); refine And.intro ?_ ?_; repeat' first | refine leL_cons ?_ ?_ | exact leA_any | exact leA_refl rfl | exact leL_nil | refine leH_cons ?_ ?_ | exact leH_nil | exact leB_free | exact leB_dead | refine leB_cells ?_ | exact leB_map rfl | exact leB_gst rfl | exact leA_nil rfl | refine leA_agg ?_ | refine leA_tup ?_ | fail)
  (refine ⟨by kernel_rfl, ?_⟩; (conv => whnf))
  obtain ⟨hi1, hi2⟩ := hi
  refine brI (fun h1 => ?_) (fun h1 => ?_)
  · conv => whnf
    have hi : i < l.length := by simp only [decide_eq_true_eq] at h1; omega
    refine ⟨⟨by omega, by omega⟩, fun x hx => ?_⟩
    have hx : l[i]? = some x := by simpa using hx
    have hm := List.mem_of_getElem? hx
    rw [drop_get hx] at hi2
    simp only [ixP] at hi2
    conv => whnf
    refine cbI [.cells [.sl .str ns]] ((newN ns) x) (f92 ns x hns) (fun h2 => ?_) (fun h2 => ?_)
    · conv => whnf
      rw [if_pos h2] at hi2
      exact ⟨leA_int hi2, leHn ns⟩
    · conv => whnf
      rw [if_neg (by rw [h2]; simp)] at hi2
      refine ⟨i + 1, ⟨by omega, hi2⟩, by show l.length - (i + 1) < l.length - i; omega, ?_⟩
      ((conv => whnf); refine And.intro ?_ ?_; repeat' first | refine leL_cons ?_ ?_ | exact leA_any | exact leA_refl rfl | exact leL_nil | refine leH_cons ?_ ?_ | exact leH_nil | exact leB_free | exact leB_dead | refine leB_cells ?_ | exact leB_map rfl | exact leB_gst rfl | exact leA_nil rfl | refine leA_agg ?_ | refine leA_tup ?_ | fail)
      exact leA_int (by rw [wI (by omega)]; omega)
  · conv => whnf
    have hi : ¬ i < l.length := by simp only [decide_eq_false_iff_not] at h1; omega
    rw [List.drop_of_length_le (by omega)] at hi2
    exact ⟨leA_int hi2, leHn ns⟩
theorem f32c (ns : List Bytes) (hns : ns.length < 9223372036854775808) (l : List Bytes) (hlen : l.length < 9223372036854775808) : Fn 22 (Hn ns) [.sl .str l, .fn 27 [.ptr 1000003 0]] (.bool (l.any (newN ns))) (Hn ns) := by
  refine fnT hT2 hmx Tryz.func22 rfl rfl (ex := []) ?_
  conv => whnf
  refine ⟨[.cells [.sl .str ns]], _, f73c ns hns l hlen, ?_⟩
  conv => whnf
  exact ⟨leA_bool (by rw [Bool.eq_iff_iff, decide_eq_true_eq]; exact ixP_iff (newN ns) l 0), leHn ns⟩
end Go.Proofs.YtmcdnbmamoggoaaGreat
