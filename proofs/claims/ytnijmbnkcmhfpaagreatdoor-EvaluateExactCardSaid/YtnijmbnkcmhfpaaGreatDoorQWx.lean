/-
  Trees that are gone through until a callback has enough; tree.Rational.
-/
import Derived.Test.YtnijmbnkcmhfpaaGreatDoorQUs
import Derived.Test.YtnijmbnkcmhfpaaGreatDoorQWA
import Derived.Test.YtnijmbnkcmhfpaaGreatDoorQZz
set_option linter.unusedVariables false
set_option linter.unusedSimpArgs false
namespace Go.Proofs.YtnijmbnkcmhfpaaGreatDoor
open Go Go.Sx
set_option maxRecDepth 100000
set_option maxHeartbeats 8000000
/-- The callback answers p, and is called no more when it has answered false. -/
def Stops (l : Nat) (J : Bool → GJ) (p : Ex → Bool) : Prop := ∀ y : Ex, CbOK Tryz.prog l [(CBID, .gst (J true))] [.agg (exC y)] (.bool (p y)) [(CBID, .gst (J (p y)))]
abbrev B1 (l : Nat) (J : Bool → GJ) (b : Bool) : Hp := [(1000003, .cells [.cb l]), (CBID, .gst (J b))]
abbrev B2 (l : Nat) (J : Bool → GJ) (b : Bool) : Hp := [(1000004, .cells [.fn 102 [.ptr 1000003 0]]), (1000003, .cells [.cb l]), (CBID, .gst (J b))]
theorem leB1 {h h' : Hp} (l : Nat) (J : Bool → GJ) (b : Bool) : leH h h' (B1 l J b) (B1 l J b) := leH_cons (leB_cells (leL_cons (leA_refl rfl) leL_nil)) (leH_cons (leB_gst rfl) leH_nil)
theorem leB2 {h h' : Hp} (l : Nat) (J : Bool → GJ) (b : Bool) : leH h h' (B2 l J b) (B2 l J b) := leH_cons (leB_cells (leL_cons (leA_refl rfl) leL_nil)) (leH_cons (leB_cells (leL_cons (leA_refl rfl) leL_nil)) (leH_cons (leB_gst rfl) leH_nil))
mutual
def allE (p : Ex → Bool) : Ex → Bool
  | .mk k q s n l => p (.mk k q s n l) && allL p l
def allL (p : Ex → Bool) : List Ex → Bool
  | [] => true
  | x :: l => allE p x && allL p l
end
def ixA (p : Ex → Bool) : List Ex → Nat → Int
  | [], _ => -1
  | x :: l, i => if allE p x then ixA p l (i + 1) else i
theorem ixA_iff (p : Ex → Bool) : ∀ (l : List Ex) (i : Nat), 0 ≤ ixA p l i ↔ allL p l = false
  | [], i => by simp [ixA, allL]
  | x :: l, i => by
    have ih := ixA_iff p l (i + 1)
    by_cases h : allE p x = true
    · simp [ixA, allL, h, ih]
    · simp [ixA, allL, h]
abbrev StOK (l : Nat) (J : Bool → GJ) (p : Ex → Bool) (e : Ex) : Prop := Fn 61 [(CBID, .gst (J true))] [.agg (exC e), .cb l] (.bool (allE p e)) [(CBID, .gst (J (allE p e)))]
theorem s153 (l : Nat) (J : Bool → GJ) (p : Ex → Bool) (x : Ex) (hx : StOK l J p x) : Fn 102 (B1 l J true) [.agg (exC x), .ptr 1000003 0] (.bool (allE p x)) (B1 l J (allE p x)) := by
  refine fnT hT hmx Tryz.func102 rfl rfl (ex := []) ?_
  conv => whnf
  refine ⟨[.gst (J (allE p x))], .bool (allE p x), hx, ?_⟩
  conv => whnf
  exact ⟨leA_refl rfl, leB1 l J _⟩
theorem s163 (l : Nat) (J : Bool → GJ) (p : Ex → Bool) (x : Ex) (hx : StOK l J p x) : Fn 153 (B2 l J true) [.agg (exC x), .ptr 1000004 0] (.bool (!allE p x)) (B2 l J (allE p x)) := by
  refine fnT hT hmx Tryz.func153 rfl rfl (ex := []) ?_
  conv => whnf
  refine ⟨[.cells [.cb l], .gst (J (allE p x))], .bool (allE p x), s153 l J p x hx, ?_⟩
  conv => whnf
  exact ⟨leA_bool rfl, leB2 l J _⟩
theorem s114 (l : Nat) (J : Bool → GJ) (p : Ex → Bool) (xs : List Ex) (hl : ∀ x ∈ xs, StOK l J p x) (hlen : xs.length < 9223372036854775808) :
    Fn 120 (B2 l J true) [.sl .ex xs, .fn 153 [.ptr 1000004 0]] (.int .i64 (ixA p xs 0)) (B2 l J (allL p xs)) := by
  refine fnT hT hmx Tryz.func120 rfl rfl (ex := []) ?_
  conv => whnf
  refine ⟨Nat, fun i => i ≤ xs.length ∧ ixA p (xs.drop i) i = ixA p xs 0 ∧ allL p (xs.drop i) = allL p xs, fun i => [(8, .int .i64 i)], fun i => [(CBID, .gst (J true))], fun i => xs.length - i, 0, ⟨by simp, rfl, rfl⟩, ?_, fun i hi => ?_⟩
  · ((conv => whnf); refine And.intro ?_ ?_; repeat' first | refine leL_cons ?_ ?_ | exact leA_any | exact leA_refl rfl | exact leL_nil | refine leH_cons ?_ ?_ | exact leH_nil | exact leB_free | exact leB_dead | refine leB_cells ?_ | exact leB_map rfl | exact leB_gst rfl | exact leA_nil rfl | refine leA_agg ?_ | refine leA_tup ?_ | fail)
  · (refine ⟨by kernel_rfl, ?_⟩; (conv => whnf))
    obtain ⟨hi1, hi2, hi3⟩ := hi
    refine brI (fun h1 => ?_) (fun h1 => ?_)
    · conv => whnf
      have hi : i < xs.length := by simp only [decide_eq_true_eq] at h1; omega
      refine ⟨⟨by omega, by omega⟩, fun e he => ?_⟩
      have he : xs[i]? = some e := by simpa using he
      rw [drop_get he] at hi2 hi3
      simp only [ixA, allL] at hi2 hi3
      have hx := s163 l J p e (hl e (List.mem_of_getElem? he))
      conv => whnf
      cases hp : allE p e with
      | true =>
        rw [hp] at hx hi2 hi3
        refine ⟨[.cells [.fn 102 [.ptr 1000003 0]], .cells [.cb l], .gst (J true)], .bool false, hx, ?_⟩
        conv => whnf
        refine ⟨i + 1, ⟨by omega, by simpa using hi2, by simpa using hi3⟩, by show xs.length - (i + 1) < xs.length - i; omega, ?_⟩
        ((conv => whnf); refine And.intro ?_ ?_; repeat' first | refine leL_cons ?_ ?_ | exact leA_any | exact leA_refl rfl | exact leL_nil | refine leH_cons ?_ ?_ | exact leH_nil | exact leB_free | exact leB_dead | refine leB_cells ?_ | exact leB_map rfl | exact leB_gst rfl | exact leA_nil rfl | refine leA_agg ?_ | refine leA_tup ?_ | fail)
        exact leA_int (by rw [wI (by omega)]; omega)
      | false =>
        rw [hp] at hx hi2 hi3
        refine ⟨[.cells [.fn 102 [.ptr 1000003 0]], .cells [.cb l], .gst (J false)], .bool true, hx, ?_⟩
        conv => whnf
        rw [← hi3]
        exact ⟨leA_int (by simpa using hi2), leB2 l J _⟩
    · conv => whnf
      have hi : ¬ i < xs.length := by simp only [decide_eq_false_iff_not] at h1; omega
      rw [List.drop_of_length_le (by omega)] at hi2 hi3
      rw [← hi3]
      exact ⟨leA_int hi2, leB2 l J _⟩
theorem s60 (l : Nat) (J : Bool → GJ) (p : Ex → Bool) (xs : List Ex) (hl : ∀ x ∈ xs, StOK l J p x) (hlen : xs.length < 9223372036854775808) :
    Fn 74 (B2 l J true) [.sl .ex xs, .fn 153 [.ptr 1000004 0]] (.bool (!allL p xs)) (B2 l J (allL p xs)) := by
  refine fnT hT hmx Tryz.func74 rfl rfl (ex := []) ?_
  conv => whnf
  refine ⟨[.cells [.fn 102 [.ptr 1000003 0]], .cells [.cb l], .gst (J (allL p xs))], _, s114 l J p xs hl hlen, ?_⟩
  conv => whnf
  exact ⟨leA_bool (by rw [Bool.eq_iff_iff, decide_eq_true_eq]; have := ixA_iff p xs 0; simp only [ge_iff_le, this, Bool.not_eq_true']), leB2 l J _⟩
theorem s152 (l : Nat) (J : Bool → GJ) (p : Ex → Bool) (xs : List Ex) (hl : ∀ x ∈ xs, StOK l J p x) (hlen : xs.length < 9223372036854775808) :
    Fn 101 (B1 l J true) [.sl .ex xs, .fn 102 [.ptr 1000003 0]] (.bool (allL p xs)) (B1 l J (allL p xs)) := by
  refine fnT hT hmx Tryz.func101 rfl rfl (ex := []) ?_
  conv => whnf
  refine ⟨[.cells [.fn 102 [.ptr 1000003 0]], .cells [.cb l], .gst (J (allL p xs))], .bool (!allL p xs), (s60 l J p xs hl hlen).sw [(3, 1000004)] rfl, ?_⟩
  conv => whnf
  exact ⟨leA_bool (by simp), leB1 l J _⟩
theorem s127 (l : Nat) (J : Bool → GJ) (p : Ex → Bool) (hJ : Stops l J p) : ∀ e : Ex, Sm e → StOK l J p e := by
  refine exInd fun k q s n xs ih hs => ?_
  simp only [Sm] at hs
  have hl : ∀ x ∈ xs, StOK l J p x := fun x hx => ih x hx (SmL_mem hs.2.2 x hx)
  have hy := hJ (.mk k q s n xs)
  unfold StOK
  simp only [allE]
  refine fnT hT hmx Tryz.func61 rfl rfl (ex := []) ?_
  conv => whnf
  cases hp : p (.mk k q s n xs) with
  | true =>
    rw [hp] at hy
    refine ⟨[.gst (J true)], .bool true, hy, ?_⟩
    conv => whnf
    refine ⟨[.cells [.cb l], .gst (J (allL p xs))], .bool (allL p xs), (s152 l J p xs hl hs.2.1).sw [(3, 1000003)] rfl, ?_⟩
    conv => whnf
    exact ⟨leA_refl rfl, leH_cons (leB_gst rfl) leH_nil⟩
  | false =>
    rw [hp] at hy
    refine ⟨[.gst (J false)], .bool false, hy, ?_⟩
    conv => whnf
    exact ⟨leA_refl rfl, leH_cons (leB_gst rfl) leH_nil⟩
theorem s126 (l : Nat) (J : Bool → GJ) (p : Ex → Bool) (hJ : Stops l J p) (e : Ex) (he : Sm e) (b : Bool) (hb : b = (!okT e || allE p e)) :
    Fn 60 [(CBID, .gst (J true)), (1000001, .cells (exC e))] [.cb l, .ptr 1000001 0] (.tup []) [(CBID, .gst (J b)), (1000001, .cells (exC e))] := by
  refine fnT hT hmx Tryz.func60 rfl rfl (ex := []) ?_
  conv => whnf
  refine cbI [] (okT e) (f17 e he) (fun h1 => ?_) (fun h1 => ?_)
  · conv => whnf
    refine ⟨[], _, f128 (okT_VT h1), ?_⟩
    conv => whnf
    refine ⟨[.gst (J (allE p e))], .bool (allE p e), s127 l J p hJ e he, ?_⟩
    conv => whnf
    refine ⟨leA_refl rfl, leH_cons (leB_gst ?_) (leH_cons (leB_cells (leL_refl rfl)) leH_nil)⟩
    rw [hb, h1]; rfl
  · conv => whnf
    refine ⟨leA_refl rfl, leH_cons (leB_gst ?_) (leH_cons (leB_cells (leL_refl rfl)) leH_nil)⟩
    rw [hb, h1]; rfl
/-- No functions. -/
def ratB (e : Ex) : Bool := okT e && allE (fun y => decide (y.k < 9)) e
theorem f101 (e : Ex) (he : Sm e) : Fn 14 [] [.agg (exC e)] (.bool (ratB e)) [] := by
  obtain ⟨b, hb⟩ : ∃ b, b = (!okT e || allE (fun y => decide (y.k < 9)) e) := ⟨_, rfl⟩
  refine fnT hT hmx Tryz.func14 rfl rfl (ex := []) ?_
  conv => whnf
  refine ⟨[], [.cells (exC e)], .fn 60 [.ptr 2000000 0], f71 e, ?_⟩
  conv => whnf
  refine ⟨[2], Bool, Ex, fun _ => [.cells [.bool false]], fun b => b, fun _ => .ret, fun y => [.agg (exC y)], fun _ y => decide (y.k < 9), true, b, .tup [], [.cells (exC e)], ?_, rfl, by kernel_rfl, by kernel_rfl, fun _ => ⟨rfl, rfl⟩, fun _ => rfl, ?_, ?_, ?_⟩
  · rfl
  · intro l J h
    exact (s126 l J (fun y => decide (y.k < 9)) (fun y => h true y rfl) e he b hb).sw [(5, 1000001)] rfl
  · intro x y _
    conv => whnf
    refine brI (fun h1 => ?_) (fun h1 => ?_)
    · conv => whnf
      have h1 : y.k ≥ 9 := by simpa using h1
      refine ⟨by simp only [decide_eq_false_iff_not]; omega, rfl, ?_⟩
      unfold endK
      exact leH_cons (leB_cells (leL_cons (leA_refl rfl) leL_nil)) leH_nil
    · conv => whnf
      have h1 : ¬ y.k ≥ 9 := by simpa using h1
      refine ⟨by simp only [decide_eq_true_eq]; omega, ?_⟩
      unfold endK
      exact leH_cons (leB_cells (leL_cons (leA_refl rfl) leL_nil)) leH_nil
  · cases b with
    | true =>
      conv => whnf
      refine ⟨[], _, f17 e he, ?_⟩
      conv => whnf
      exact ⟨leA_bool (by unfold ratB; cases h1 : okT e <;> rw [h1] at hb <;> simp_all), leH_nil⟩
    | false =>
      conv => whnf
      exact ⟨leA_bool (by unfold ratB; cases h1 : okT e <;> rw [h1] at hb <;> simp_all), leH_nil⟩
end Go.Proofs.YtnijmbnkcmhfpaaGreatDoor

/-
  tree.Names: the names of a tree's variables, each once, in order.
-/
namespace Go.Proofs.YtnijmbnkcmhfpaaGreatDoor
open Go Go.Sx
set_option maxRecDepth 100000
set_option maxHeartbeats 8000000
/-- The names of variables among nodes. -/
def namV : List Ex → List Bytes
  | [] => []
  | y :: l => if y.k = 2 then y.s :: namV l else namV l
theorem namV_app (l m : List Ex) : namV (l ++ m) = namV l ++ namV m := by
  induction l with
  | nil => rfl
  | cons y l ih => simp only [List.cons_append, namV, ih]; split <;> rfl
theorem namV_len (l : List Ex) : (namV l).length ≤ l.length := by
  induction l with
  | nil => exact Nat.le_refl _
  | cons y l ih => simp only [namV]; split <;> simp <;> omega
def nmE (e : Ex) : List Bytes := Go.Lib.compact (srtS (namV (visE e)))
noncomputable def body91 : Code := Tryz.f16.body.getD .skip
theorem f91 (e : Ex) (he : Sm e) : Fn 16 [] [.agg (exC e)] (.sl .str (nmE e)) [] := by
  refine fnC_sound (code := body91) hT hmx Tryz.func16 rfl rfl (ex := []) ?_
  conv => whnf
  refine sem_cut hT hmx 2 (fun _ : Unit => ⟨[.any, .ptr 1 0, .any, .ptr 3 0] ++ anys 16, [(1, .cells (exC e)), (3, .cells [.nilsl]), (6, .free), (19, .free)]⟩) (fun _ => by kernel_rfl) ?_ (fun _ => ?_)
  · conv => whnf
    refine ⟨(), ?_⟩
    ((conv => whnf); refine And.intro ?_ ?_; repeat' first | refine leL_cons ?_ ?_ | exact leA_any | exact leA_refl rfl | exact leL_nil | refine leH_cons ?_ ?_ | exact leH_nil | exact leB_free | exact leB_dead | refine leB_cells ?_ | exact leB_map rfl | exact leB_gst rfl | exact leA_nil rfl | refine leA_agg ?_ | refine leA_tup ?_ | fail)
  refine sem_key 15 (by kernel_rfl) ?_
  show SemOK Tryz.prog T Tryz.f16.results.toList [] (.sl .str (nmE e)) [] (dropS 2 body91) ⟨[.any, .ptr 1 0, .any, .ptr 3 0] ++ anys 16, [(1, .cells (exC e)), (3, .cells [.nilsl]), (6, .free), (19, .free), (15, .free)]⟩
  refine sem_rangeO hT hmx ⟨[.any, .ptr 1 0, .any, .ptr 3 0, .any, .any, .fn 60 [.ptr 6 0]] ++ anys 13, [(1, .cells (exC e)), (3, .cells [.own 15]), (6, .cells (exC e)), (19, .free), (15, .buf 9 .str [])]⟩ (by kernel_rfl) ?_ (g := 60) (caps := [.ptr 6 0]) rfl
    (i0 := 3) (k0 := 15) (bi := 1000003) (ob := 1400000) (e := 9) (k := .str) (X := List Ex) (Y := Ex) (xs := fun s => namV s) (args := fun y => [.agg (exC y)]) (next := fun s y => s ++ [y]) (x₀ := []) (xE := visE e) (r := .tup []) (ib := [.cells (exC e)]) rfl rfl rfl (by kernel_rfl) (fun _ => rfl) (fun s => s.length < 1000) ?_ ?_ ?_
  · conv => whnf
    refine ⟨[], [.cells (exC e)], .fn 60 [.ptr 2000000 0], f71 e, ?_⟩
    conv => whnf
    ((conv => whnf); refine And.intro ?_ ?_; repeat' first | refine leL_cons ?_ ?_ | exact leA_any | exact leA_refl rfl | exact leL_nil | refine leH_cons ?_ ?_ | exact leH_nil | exact leB_free | exact leB_dead | refine leB_cells ?_ | exact leB_map rfl | exact leB_gst rfl | exact leA_nil rfl | refine leA_agg ?_ | refine leA_tup ?_ | fail)
    · exact trivial
    · exact leB_new rfl rfl
  · intro l J h
    exact (f126 l J (fun s y hs => h s y hs) e he).sw [(6, 1000001)] rfl
  · intro x y hx
    by_cases hy : y.k = 2
    · refine ⟨1500015, by decide, ?_⟩
      conv => whnf
      refine brI (fun _ => ?_) (fun h => absurd hy (by simpa using h))
      conv => whnf
      refine ⟨?_, ?_⟩
      · have := namV_len x
        simp only [List.length_cons, List.length_nil]; omega
      conv => whnf
      refine ⟨?_⟩
      refine leH_cons (leB_cells (leL_cons (leA_refl rfl) leL_nil)) (leH_cons (leB_buf ?_) leH_nil)
      rw [namV_app]; simp [namV, hy]
    · refine ⟨1400000, by decide, ?_⟩
      conv => whnf
      refine brI (fun h => absurd (by simpa using h) hy) (fun _ => ?_)
      conv => whnf
      refine ⟨?_⟩
      refine leH_cons (leB_cells (leL_cons (leA_refl rfl) leL_nil)) (leH_cons (leB_buf ?_) leH_nil)
      rw [namV_app]; simp [namV, hy]
  · refine sem_end hT hmx ?_
    conv => whnf
    refine ⟨[.buf 9 .str (srtS (namV (visE e)))], _, f136 15 _ ?_, ?_⟩
    · have h1 := namV_len (visE e)
      have h2 := visE_len e
      have h3 := szN_le e
      omega
    conv => whnf
    refine ⟨[.dead], [.buf 9 .str (Go.Lib.compact (srtS (namV (visE e))))], .own 2000000, f137 15 (by omega) _, ?_⟩
    conv => whnf
    exact ⟨leA_sl rfl, leH_nil⟩
end Go.Proofs.YtnijmbnkcmhfpaaGreatDoor

/-
  Exact values: evaluate.exactly.
-/
namespace Go.Proofs.YtnijmbnkcmhfpaaGreatDoor
open Go Go.Sx
set_option maxRecDepth 100000
set_option maxHeartbeats 8000000
/-- r times a, n times, as long as there is no error. -/
def powX (a : Rt) : Nat → Rt → Rt × Int
  | 0, r => (r, 0)
  | n + 1, r => if (rMul r a).2 = 0 then powX a n (rMul r a).1 else rMul r a
def xop (k p : Int) (a b : Rt) : Rt × Int :=
  if k = 3 then rAdd a b else if k = 4 then rSub a b else if k = 5 then rMul a b else if k = 6 then rDiv a b else if k = 7 then rSub ⟨0, 1⟩ a else powX a p.toNat ⟨1, 1⟩
abbrev Env0 := List (Bytes × Rt)
mutual
def xcE (es : Env0) : Ex → Rt × Int
  | .mk k q s p l => if k = 1 then (q, 0) else if k = 2 then (mget .str s ⟨0, 0⟩ es, 0) else xcL es k p l []
def xcL (es : Env0) (k p : Int) : List Ex → List Rt → Rt × Int
  | [], acc => xop k p (acc[0]?.getD ⟨0, 0⟩) (acc[1]?.getD ⟨0, 0⟩)
  | x :: l, acc => if (xcE es x).2 = 0 then xcL es k p l (acc ++ [(xcE es x).1]) else xcE es x
end
abbrev Hm (es : Env0) : Hp := [(1000001, .map .str .rat es)]
theorem leHm {h h' : Hp} (es : Env0) : leH h h' (Hm es) (Hm es) := leH_cons (leB_map rfl) leH_nil
abbrev XcOK (es : Env0) (e : Ex) : Prop := Fn 17 (Hm es) [.agg (exC e), .mp 1000001] (rto (xcE es e)) (Hm es)
theorem f102_num (es : Env0) (r : Rt) : XcOK es (ratE r) := by
  unfold XcOK
  rw [show xcE es (ratE r) = (r, 0) by simp [ratE, xcE]]
  refine fnT hT hmx Tryz.func17 rfl rfl (ex := []) ?_
  conv => whnf
  exact ⟨leA_refl rfl, leHm es⟩
theorem f102_var (es : Env0) (s : Bytes) : XcOK es (varE s) := by
  unfold XcOK
  rw [show xcE es (varE s) = (mget .str s ⟨0, 0⟩ es, 0) by simp [varE, xcE]]
  refine fnT hT hmx Tryz.func17 rfl rfl (ex := []) ?_
  conv => whnf
  exact ⟨leA_refl rfl, leHm es⟩
theorem f102_neg (es : Env0) (a : Ex) (ha : XcOK es a) : XcOK es (opE 7 0 [a]) := by
  unfold XcOK at *
  rw [show xcE es (opE 7 0 [a]) = if (xcE es a).2 = 0 then rSub ⟨0, 1⟩ (xcE es a).1 else xcE es a by simp [opE, xcE, xcL, xop]]
  generalize xcE es a = A at ha
  obtain ⟨x, f⟩ := A
  refine fnT hT hmx Tryz.func17 rfl rfl (ex := []) ?_
  conv => whnf
  refine ⟨Nat, fun i => i ≤ 1 ∧ (i = 1 → f = 0), fun i => [(29, .int .i64 i)], fun i => [(6, .cells (if i = 0 then [.int .i64 0, .int .i64 0, .int .i64 0, .int .i64 0] else [.int .i64 x.n, .int .i64 x.d, .int .i64 0, .int .i64 0]))], fun i => 1 - i, 0, ⟨by omega, by omega⟩, ?_, fun i hi => ?_⟩
  · ((conv => whnf); refine And.intro ?_ ?_; repeat' first | refine leL_cons ?_ ?_ | exact leA_any | exact leA_refl rfl | exact leL_nil | refine leH_cons ?_ ?_ | exact leH_nil | exact leB_free | exact leB_dead | refine leB_cells ?_ | exact leB_map rfl | exact leB_gst rfl | exact leA_nil rfl | refine leA_agg ?_ | refine leA_tup ?_ | fail)
  obtain ⟨hi1, hi2⟩ := hi
  obtain rfl | rfl : i = 0 ∨ i = 1 := by omega
  · (refine ⟨by kernel_rfl, ?_⟩; (conv => whnf))
    refine ix0 ?_
    conv => whnf
    refine ⟨[.map .str .rat es], rto (x, f), ha, ?_⟩
    conv => whnf
    refine brI (fun h1 => ?_) (fun h1 => ?_)
    · conv => whnf
      have h1 : f ≠ 0 := by simpa using h1
      rw [if_neg h1]
      exact ⟨leA_refl rfl, leHm es⟩
    · conv => whnf
      have h1 : f = 0 := by simpa using h1
      refine ⟨⟨by omega, by omega⟩, ?_⟩
      conv => whnf
      refine ⟨1, ⟨by omega, fun _ => h1⟩, by show 1 - 1 < 1 - 0; omega, ?_⟩
      ((conv => whnf); refine And.intro ?_ ?_; repeat' first | refine leL_cons ?_ ?_ | exact leA_any | exact leA_refl rfl | exact leL_nil | refine leH_cons ?_ ?_ | exact leH_nil | exact leB_free | exact leB_dead | refine leB_cells ?_ | exact leB_map rfl | exact leB_gst rfl | exact leA_nil rfl | refine leA_agg ?_ | refine leA_tup ?_ | fail)
  · (refine ⟨by kernel_rfl, ?_⟩; (conv => whnf))
    have h1 : f = 0 := hi2 rfl
    rw [if_pos h1]
    refine ⟨⟨by omega, by omega⟩, ?_⟩
    conv => whnf
    refine ⟨[], _, f108 ⟨0, 1⟩ x, ?_⟩
    conv => whnf
    exact ⟨leA_refl rfl, leHm es⟩
theorem f102_pow (es : Env0) (n : Int) (h0 : 0 ≤ n) (h16 : n ≤ 16) (a : Ex) (ha : XcOK es a) : XcOK es (opE 8 n [a]) := by
  unfold XcOK at *
  rw [show xcE es (opE 8 n [a]) = if (xcE es a).2 = 0 then powX (xcE es a).1 n.toNat ⟨1, 1⟩ else xcE es a by simp [opE, xcE, xcL, xop]]
  generalize xcE es a = A at ha
  obtain ⟨x, f⟩ := A
  refine fnT hT hmx Tryz.func17 rfl rfl (ex := []) ?_
  conv => whnf
  refine ⟨Nat, fun i => i ≤ 1 ∧ (i = 1 → f = 0), fun i => [(29, .int .i64 i)], fun i => [(6, .cells (if i = 0 then [.int .i64 0, .int .i64 0, .int .i64 0, .int .i64 0] else [.int .i64 x.n, .int .i64 x.d, .int .i64 0, .int .i64 0]))], fun i => 1 - i, 0, ⟨by omega, by omega⟩, ?_, fun i hi => ?_⟩
  · ((conv => whnf); refine And.intro ?_ ?_; repeat' first | refine leL_cons ?_ ?_ | exact leA_any | exact leA_refl rfl | exact leL_nil | refine leH_cons ?_ ?_ | exact leH_nil | exact leB_free | exact leB_dead | refine leB_cells ?_ | exact leB_map rfl | exact leB_gst rfl | exact leA_nil rfl | refine leA_agg ?_ | refine leA_tup ?_ | fail)
  obtain ⟨hi1, hi2⟩ := hi
  obtain rfl | rfl : i = 0 ∨ i = 1 := by omega
  · (refine ⟨by kernel_rfl, ?_⟩; (conv => whnf))
    refine ix0 ?_
    conv => whnf
    refine ⟨[.map .str .rat es], rto (x, f), ha, ?_⟩
    conv => whnf
    refine brI (fun h1 => ?_) (fun h1 => ?_)
    · conv => whnf
      have h1 : f ≠ 0 := by simpa using h1
      rw [if_neg h1]
      exact ⟨leA_refl rfl, leHm es⟩
    · conv => whnf
      have h1 : f = 0 := by simpa using h1
      refine ⟨⟨by omega, by omega⟩, ?_⟩
      conv => whnf
      refine ⟨1, ⟨by omega, fun _ => h1⟩, by show 1 - 1 < 1 - 0; omega, ?_⟩
      ((conv => whnf); refine And.intro ?_ ?_; repeat' first | refine leL_cons ?_ ?_ | exact leA_any | exact leA_refl rfl | exact leL_nil | refine leH_cons ?_ ?_ | exact leH_nil | exact leB_free | exact leB_dead | refine leB_cells ?_ | exact leB_map rfl | exact leB_gst rfl | exact leA_nil rfl | refine leA_agg ?_ | refine leA_tup ?_ | fail)
  · (refine ⟨by kernel_rfl, ?_⟩; (conv => whnf))
    have h1 : f = 0 := hi2 rfl
    simp only [if_pos h1]
    obtain ⟨W, hW⟩ : ∃ W, powX x n.toNat ⟨1, 1⟩ = W := ⟨_, rfl⟩
    rw [hW]
    refine ⟨Nat × Rt × Int, fun y => (y.1 : Int) ≤ n ∧ (y.2.2 = 0 → powX x (n.toNat - y.1) y.2.1 = W) ∧ (y.2.2 ≠ 0 → (y.2.1, y.2.2) = W), fun y => [(13, .int .i64 y.1), (12, .int .i64 y.2.2)], fun y => [(11, .cells [.int .i64 y.2.1.n, .int .i64 y.2.1.d])], fun y => n.toNat - y.1, (0, ⟨1, 1⟩, 0), ⟨by simpa using h0, fun _ => hW, fun h => absurd rfl h⟩, ?_, fun y hy => ?_⟩
    · ((conv => whnf); refine And.intro ?_ ?_; repeat' first | refine leL_cons ?_ ?_ | exact leA_any | exact leA_refl rfl | exact leL_nil | refine leH_cons ?_ ?_ | exact leH_nil | exact leB_free | exact leB_dead | refine leB_cells ?_ | exact leB_map rfl | exact leB_gst rfl | exact leA_nil rfl | refine leA_agg ?_ | refine leA_tup ?_ | fail)
    (refine ⟨by kernel_rfl, ?_⟩; (conv => whnf))
    obtain ⟨j, r, g⟩ := y
    obtain ⟨hy1, hy2, hy3⟩ := hy
    simp only at hy1 hy2 hy3
    refine brI (fun h2 => ?_) (fun h2 => ?_)
    · conv => whnf
      have h2 : decide ((j : Int) < n) = true := h2
      have h2 : (j : Int) < n := by simpa using h2
      refine brI (fun h3 => ?_) (fun h3 => ?_)
      · conv => whnf
        have h3 : g = 0 := by simpa using h3
        have hy2 := hy2 h3
        rw [show n.toNat - j = (n.toNat - (j + 1)) + 1 by omega] at hy2
        simp only [powX] at hy2
        refine ⟨⟨by omega, by omega⟩, ?_⟩
        conv => whnf
        have h142 := f142 r x
        generalize rMul r x = B at h142 hy2
        obtain ⟨r2, g2⟩ := B
        simp only at hy2
        refine ⟨[], rto (r2, g2), h142, ?_⟩
        conv => whnf
        refine ⟨(j + 1, r2, g2), ⟨by simp only; omega, fun h => ?_, fun h => ?_⟩, by show n.toNat - (j + 1) < n.toNat - j; omega, ?_⟩
        · simp only at h; rw [if_pos h] at hy2; exact hy2
        · simp only at h; rw [if_neg h] at hy2; exact hy2
        ((conv => whnf); refine And.intro ?_ ?_; repeat' first | refine leL_cons ?_ ?_ | exact leA_any | exact leA_refl rfl | exact leL_nil | refine leH_cons ?_ ?_ | exact leH_nil | exact leB_free | exact leB_dead | refine leB_cells ?_ | exact leB_map rfl | exact leB_gst rfl | exact leA_nil rfl | refine leA_agg ?_ | refine leA_tup ?_ | fail)
        exact leA_int (by rw [wI (by simp only; omega)]; simp only; omega)
      · conv => whnf
        have h3 : g ≠ 0 := by simpa using h3
        have hy3 := hy3 h3
        subst hy3
        exact ⟨leA_refl rfl, leHm es⟩
    · conv => whnf
      have h2 : decide ((j : Int) < n) = false := h2
      have h2 : ¬ (j : Int) < n := by simpa using h2
      have h3 : (r, g) = W := by
        by_cases hg : g = 0
        · have := hy2 hg
          rw [show n.toNat - j = 0 by omega] at this
          rw [← this, hg]; rfl
        · exact hy3 hg
      subst h3
      exact ⟨leA_refl rfl, leHm es⟩
theorem f102_3 (es : Env0) (a b : Ex) (ha : XcOK es a) (hb : XcOK es b) : XcOK es (opE 3 0 [a, b]) := by
  unfold XcOK at *
  rw [show xcE es (opE 3 0 [a, b]) = if (xcE es a).2 = 0 then (if (xcE es b).2 = 0 then rAdd (xcE es a).1 (xcE es b).1 else xcE es b) else xcE es a by simp [opE, xcE, xcL, xop]]
  generalize xcE es a = A at ha
  generalize xcE es b = B at hb
  obtain ⟨x, f⟩ := A
  obtain ⟨y, g⟩ := B
  refine fnT hT hmx Tryz.func17 rfl rfl (ex := []) ?_
  conv => whnf
  refine ⟨Nat, fun i => i ≤ 2 ∧ (1 ≤ i → f = 0) ∧ (i = 2 → g = 0), fun i => [(29, .int .i64 i)], fun i => [(6, .cells (match i with
    | 0 => [.int .i64 0, .int .i64 0, .int .i64 0, .int .i64 0]
    | 1 => [.int .i64 x.n, .int .i64 x.d, .int .i64 0, .int .i64 0]
    | _ => [.int .i64 x.n, .int .i64 x.d, .int .i64 y.n, .int .i64 y.d]))], fun i => 2 - i, 0, ⟨by omega, by omega, by omega⟩, ?_, fun i hi => ?_⟩
  · ((conv => whnf); refine And.intro ?_ ?_; repeat' first | refine leL_cons ?_ ?_ | exact leA_any | exact leA_refl rfl | exact leL_nil | refine leH_cons ?_ ?_ | exact leH_nil | exact leB_free | exact leB_dead | refine leB_cells ?_ | exact leB_map rfl | exact leB_gst rfl | exact leA_nil rfl | refine leA_agg ?_ | refine leA_tup ?_ | fail)
  obtain ⟨hi1, hi2, hi3⟩ := hi
  obtain rfl | rfl | rfl : i = 0 ∨ i = 1 ∨ i = 2 := by omega
  · (refine ⟨by kernel_rfl, ?_⟩; (conv => whnf))
    refine ix0 ?_
    conv => whnf
    refine ⟨[.map .str .rat es], rto (x, f), ha, ?_⟩
    conv => whnf
    refine brI (fun h1 => ?_) (fun h1 => ?_)
    · conv => whnf
      have h1 : f ≠ 0 := by simpa using h1
      rw [if_neg h1]
      exact ⟨leA_refl rfl, leHm es⟩
    · conv => whnf
      have h1 : f = 0 := by simpa using h1
      refine ⟨⟨by omega, by omega⟩, ?_⟩
      conv => whnf
      refine ⟨1, ⟨by omega, fun _ => h1, by omega⟩, by show 2 - 1 < 2 - 0; omega, ?_⟩
      ((conv => whnf); refine And.intro ?_ ?_; repeat' first | refine leL_cons ?_ ?_ | exact leA_any | exact leA_refl rfl | exact leL_nil | refine leH_cons ?_ ?_ | exact leH_nil | exact leB_free | exact leB_dead | refine leB_cells ?_ | exact leB_map rfl | exact leB_gst rfl | exact leA_nil rfl | refine leA_agg ?_ | refine leA_tup ?_ | fail)
  · (refine ⟨by kernel_rfl, ?_⟩; (conv => whnf))
    have h0 : f = 0 := hi2 (by omega)
    simp only [if_pos h0]
    refine ix1 ?_
    conv => whnf
    refine ⟨[.map .str .rat es], rto (y, g), hb, ?_⟩
    conv => whnf
    refine brI (fun h1 => ?_) (fun h1 => ?_)
    · conv => whnf
      have h1 : g ≠ 0 := by simpa using h1
      rw [if_neg h1]
      exact ⟨leA_refl rfl, leHm es⟩
    · conv => whnf
      have h1 : g = 0 := by simpa using h1
      refine ⟨⟨by omega, by omega⟩, ?_⟩
      conv => whnf
      refine ⟨2, ⟨by omega, fun _ => h0, fun _ => h1⟩, by show 2 - 2 < 2 - 1; omega, ?_⟩
      ((conv => whnf); refine And.intro ?_ ?_; repeat' first | refine leL_cons ?_ ?_ | exact leA_any | exact leA_refl rfl | exact leL_nil | refine leH_cons ?_ ?_ | exact leH_nil | exact leB_free | exact leB_dead | refine leB_cells ?_ | exact leB_map rfl | exact leB_gst rfl | exact leA_nil rfl | refine leA_agg ?_ | refine leA_tup ?_ | fail)
  · (refine ⟨by kernel_rfl, ?_⟩; (conv => whnf))
    have h0 : f = 0 := hi2 (by omega)
    have h1 : g = 0 := hi3 rfl
    simp only [if_pos h0, if_pos h1]
    refine ⟨⟨by omega, by omega⟩, ?_⟩
    conv => whnf
    refine ⟨⟨by omega, by omega⟩, ?_⟩
    conv => whnf
    refine ⟨[], _, f58 x y, ?_⟩
    conv => whnf
    exact ⟨leA_refl rfl, leHm es⟩
theorem f102_4 (es : Env0) (a b : Ex) (ha : XcOK es a) (hb : XcOK es b) : XcOK es (opE 4 0 [a, b]) := by
  unfold XcOK at *
  rw [show xcE es (opE 4 0 [a, b]) = if (xcE es a).2 = 0 then (if (xcE es b).2 = 0 then rSub (xcE es a).1 (xcE es b).1 else xcE es b) else xcE es a by simp [opE, xcE, xcL, xop]]
  generalize xcE es a = A at ha
  generalize xcE es b = B at hb
  obtain ⟨x, f⟩ := A
  obtain ⟨y, g⟩ := B
  refine fnT hT hmx Tryz.func17 rfl rfl (ex := []) ?_
  conv => whnf
  refine ⟨Nat, fun i => i ≤ 2 ∧ (1 ≤ i → f = 0) ∧ (i = 2 → g = 0), fun i => [(29, .int .i64 i)], fun i => [(6, .cells (match i with
    | 0 => [.int .i64 0, .int .i64 0, .int .i64 0, .int .i64 0]
    | 1 => [.int .i64 x.n, .int .i64 x.d, .int .i64 0, .int .i64 0]
    | _ => [.int .i64 x.n, .int .i64 x.d, .int .i64 y.n, .int .i64 y.d]))], fun i => 2 - i, 0, ⟨by omega, by omega, by omega⟩, ?_, fun i hi => ?_⟩
  · ((conv => whnf); refine And.intro ?_ ?_; repeat' first | refine leL_cons ?_ ?_ | exact leA_any | exact leA_refl rfl | exact leL_nil | refine leH_cons ?_ ?_ | exact leH_nil | exact leB_free | exact leB_dead | refine leB_cells ?_ | exact leB_map rfl | exact leB_gst rfl | exact leA_nil rfl | refine leA_agg ?_ | refine leA_tup ?_ | fail)
  obtain ⟨hi1, hi2, hi3⟩ := hi
  obtain rfl | rfl | rfl : i = 0 ∨ i = 1 ∨ i = 2 := by omega
  · (refine ⟨by kernel_rfl, ?_⟩; (conv => whnf))
    refine ix0 ?_
    conv => whnf
    refine ⟨[.map .str .rat es], rto (x, f), ha, ?_⟩
    conv => whnf
    refine brI (fun h1 => ?_) (fun h1 => ?_)
    · conv => whnf
      have h1 : f ≠ 0 := by simpa using h1
      rw [if_neg h1]
      exact ⟨leA_refl rfl, leHm es⟩
    · conv => whnf
      have h1 : f = 0 := by simpa using h1
      refine ⟨⟨by omega, by omega⟩, ?_⟩
      conv => whnf
      refine ⟨1, ⟨by omega, fun _ => h1, by omega⟩, by show 2 - 1 < 2 - 0; omega, ?_⟩
      ((conv => whnf); refine And.intro ?_ ?_; repeat' first | refine leL_cons ?_ ?_ | exact leA_any | exact leA_refl rfl | exact leL_nil | refine leH_cons ?_ ?_ | exact leH_nil | exact leB_free | exact leB_dead | refine leB_cells ?_ | exact leB_map rfl | exact leB_gst rfl | exact leA_nil rfl | refine leA_agg ?_ | refine leA_tup ?_ | fail)
  · (refine ⟨by kernel_rfl, ?_⟩; (conv => whnf))
    have h0 : f = 0 := hi2 (by omega)
    simp only [if_pos h0]
    refine ix1 ?_
    conv => whnf
    refine ⟨[.map .str .rat es], rto (y, g), hb, ?_⟩
    conv => whnf
    refine brI (fun h1 => ?_) (fun h1 => ?_)
    · conv => whnf
      have h1 : g ≠ 0 := by simpa using h1
      rw [if_neg h1]
      exact ⟨leA_refl rfl, leHm es⟩
    · conv => whnf
      have h1 : g = 0 := by simpa using h1
      refine ⟨⟨by omega, by omega⟩, ?_⟩
      conv => whnf
      refine ⟨2, ⟨by omega, fun _ => h0, fun _ => h1⟩, by show 2 - 2 < 2 - 1; omega, ?_⟩
      ((conv => whnf); refine And.intro ?_ ?_; repeat' first | refine leL_cons ?_ ?_ | exact leA_any | exact leA_refl rfl | exact leL_nil | refine leH_cons ?_ ?_ | exact leH_nil | exact leB_free | exact leB_dead | refine leB_cells ?_ | exact leB_map rfl | exact leB_gst rfl | exact leA_nil rfl | refine leA_agg ?_ | refine leA_tup ?_ | fail)
  · (refine ⟨by kernel_rfl, ?_⟩; (conv => whnf))
    have h0 : f = 0 := hi2 (by omega)
    have h1 : g = 0 := hi3 rfl
    simp only [if_pos h0, if_pos h1]
    refine ⟨⟨by omega, by omega⟩, ?_⟩
    conv => whnf
    refine ⟨⟨by omega, by omega⟩, ?_⟩
    conv => whnf
    refine ⟨[], _, f108 x y, ?_⟩
    conv => whnf
    exact ⟨leA_refl rfl, leHm es⟩
theorem f102_5 (es : Env0) (a b : Ex) (ha : XcOK es a) (hb : XcOK es b) : XcOK es (opE 5 0 [a, b]) := by
  unfold XcOK at *
  rw [show xcE es (opE 5 0 [a, b]) = if (xcE es a).2 = 0 then (if (xcE es b).2 = 0 then rMul (xcE es a).1 (xcE es b).1 else xcE es b) else xcE es a by simp [opE, xcE, xcL, xop]]
  generalize xcE es a = A at ha
  generalize xcE es b = B at hb
  obtain ⟨x, f⟩ := A
  obtain ⟨y, g⟩ := B
  refine fnT hT hmx Tryz.func17 rfl rfl (ex := []) ?_
  conv => whnf
  refine ⟨Nat, fun i => i ≤ 2 ∧ (1 ≤ i → f = 0) ∧ (i = 2 → g = 0), fun i => [(29, .int .i64 i)], fun i => [(6, .cells (match i with
    | 0 => [.int .i64 0, .int .i64 0, .int .i64 0, .int .i64 0]
    | 1 => [.int .i64 x.n, .int .i64 x.d, .int .i64 0, .int .i64 0]
    | _ => [.int .i64 x.n, .int .i64 x.d, .int .i64 y.n, .int .i64 y.d]))], fun i => 2 - i, 0, ⟨by omega, by omega, by omega⟩, ?_, fun i hi => ?_⟩
  · ((conv => whnf); refine And.intro ?_ ?_; repeat' first | refine leL_cons ?_ ?_ | exact leA_any | exact leA_refl rfl | exact leL_nil | refine leH_cons ?_ ?_ | exact leH_nil | exact leB_free | exact leB_dead | refine leB_cells ?_ | exact leB_map rfl | exact leB_gst rfl | exact leA_nil rfl | refine leA_agg ?_ | refine leA_tup ?_ | fail)
  obtain ⟨hi1, hi2, hi3⟩ := hi
  obtain rfl | rfl | rfl : i = 0 ∨ i = 1 ∨ i = 2 := by omega
  · (refine ⟨by kernel_rfl, ?_⟩; (conv => whnf))
    refine ix0 ?_
    conv => whnf
    refine ⟨[.map .str .rat es], rto (x, f), ha, ?_⟩
    conv => whnf
    refine brI (fun h1 => ?_) (fun h1 => ?_)
    · conv => whnf
      have h1 : f ≠ 0 := by simpa using h1
      rw [if_neg h1]
      exact ⟨leA_refl rfl, leHm es⟩
    · conv => whnf
      have h1 : f = 0 := by simpa using h1
      refine ⟨⟨by omega, by omega⟩, ?_⟩
      conv => whnf
      refine ⟨1, ⟨by omega, fun _ => h1, by omega⟩, by show 2 - 1 < 2 - 0; omega, ?_⟩
      ((conv => whnf); refine And.intro ?_ ?_; repeat' first | refine leL_cons ?_ ?_ | exact leA_any | exact leA_refl rfl | exact leL_nil | refine leH_cons ?_ ?_ | exact leH_nil | exact leB_free | exact leB_dead | refine leB_cells ?_ | exact leB_map rfl | exact leB_gst rfl | exact leA_nil rfl | refine leA_agg ?_ | refine leA_tup ?_ | fail)
  · (refine ⟨by kernel_rfl, ?_⟩; (conv => whnf))
    have h0 : f = 0 := hi2 (by omega)
    simp only [if_pos h0]
    refine ix1 ?_
    conv => whnf
    refine ⟨[.map .str .rat es], rto (y, g), hb, ?_⟩
    conv => whnf
    refine brI (fun h1 => ?_) (fun h1 => ?_)
    · conv => whnf
      have h1 : g ≠ 0 := by simpa using h1
      rw [if_neg h1]
      exact ⟨leA_refl rfl, leHm es⟩
    · conv => whnf
      have h1 : g = 0 := by simpa using h1
      refine ⟨⟨by omega, by omega⟩, ?_⟩
      conv => whnf
      refine ⟨2, ⟨by omega, fun _ => h0, fun _ => h1⟩, by show 2 - 2 < 2 - 1; omega, ?_⟩
      ((conv => whnf); refine And.intro ?_ ?_; repeat' first | refine leL_cons ?_ ?_ | exact leA_any | exact leA_refl rfl | exact leL_nil | refine leH_cons ?_ ?_ | exact leH_nil | exact leB_free | exact leB_dead | refine leB_cells ?_ | exact leB_map rfl | exact leB_gst rfl | exact leA_nil rfl | refine leA_agg ?_ | refine leA_tup ?_ | fail)
  · (refine ⟨by kernel_rfl, ?_⟩; (conv => whnf))
    have h0 : f = 0 := hi2 (by omega)
    have h1 : g = 0 := hi3 rfl
    simp only [if_pos h0, if_pos h1]
    refine ⟨⟨by omega, by omega⟩, ?_⟩
    conv => whnf
    refine ⟨⟨by omega, by omega⟩, ?_⟩
    conv => whnf
    refine ⟨[], _, f142 x y, ?_⟩
    conv => whnf
    exact ⟨leA_refl rfl, leHm es⟩
theorem f102_6 (es : Env0) (a b : Ex) (ha : XcOK es a) (hb : XcOK es b) : XcOK es (opE 6 0 [a, b]) := by
  unfold XcOK at *
  rw [show xcE es (opE 6 0 [a, b]) = if (xcE es a).2 = 0 then (if (xcE es b).2 = 0 then rDiv (xcE es a).1 (xcE es b).1 else xcE es b) else xcE es a by simp [opE, xcE, xcL, xop]]
  generalize xcE es a = A at ha
  generalize xcE es b = B at hb
  obtain ⟨x, f⟩ := A
  obtain ⟨y, g⟩ := B
  refine fnT hT hmx Tryz.func17 rfl rfl (ex := []) ?_
  conv => whnf
  refine ⟨Nat, fun i => i ≤ 2 ∧ (1 ≤ i → f = 0) ∧ (i = 2 → g = 0), fun i => [(29, .int .i64 i)], fun i => [(6, .cells (match i with
    | 0 => [.int .i64 0, .int .i64 0, .int .i64 0, .int .i64 0]
    | 1 => [.int .i64 x.n, .int .i64 x.d, .int .i64 0, .int .i64 0]
    | _ => [.int .i64 x.n, .int .i64 x.d, .int .i64 y.n, .int .i64 y.d]))], fun i => 2 - i, 0, ⟨by omega, by omega, by omega⟩, ?_, fun i hi => ?_⟩
  · ((conv => whnf); refine And.intro ?_ ?_; repeat' first | refine leL_cons ?_ ?_ | exact leA_any | exact leA_refl rfl | exact leL_nil | refine leH_cons ?_ ?_ | exact leH_nil | exact leB_free | exact leB_dead | refine leB_cells ?_ | exact leB_map rfl | exact leB_gst rfl | exact leA_nil rfl | refine leA_agg ?_ | refine leA_tup ?_ | fail)
  obtain ⟨hi1, hi2, hi3⟩ := hi
  obtain rfl | rfl | rfl : i = 0 ∨ i = 1 ∨ i = 2 := by omega
  · (refine ⟨by kernel_rfl, ?_⟩; (conv => whnf))
    refine ix0 ?_
    conv => whnf
    refine ⟨[.map .str .rat es], rto (x, f), ha, ?_⟩
    conv => whnf
    refine brI (fun h1 => ?_) (fun h1 => ?_)
    · conv => whnf
      have h1 : f ≠ 0 := by simpa using h1
      rw [if_neg h1]
      exact ⟨leA_refl rfl, leHm es⟩
    · conv => whnf
      have h1 : f = 0 := by simpa using h1
      refine ⟨⟨by omega, by omega⟩, ?_⟩
      conv => whnf
      refine ⟨1, ⟨by omega, fun _ => h1, by omega⟩, by show 2 - 1 < 2 - 0; omega, ?_⟩
      ((conv => whnf); refine And.intro ?_ ?_; repeat' first | refine leL_cons ?_ ?_ | exact leA_any | exact leA_refl rfl | exact leL_nil | refine leH_cons ?_ ?_ | exact leH_nil | exact leB_free | exact leB_dead | refine leB_cells ?_ | exact leB_map rfl | exact leB_gst rfl | exact leA_nil rfl | refine leA_agg ?_ | refine leA_tup ?_ | fail)
  · (refine ⟨by kernel_rfl, ?_⟩; (conv => whnf))
    have h0 : f = 0 := hi2 (by omega)
    simp only [if_pos h0]
    refine ix1 ?_
    conv => whnf
    refine ⟨[.map .str .rat es], rto (y, g), hb, ?_⟩
    conv => whnf
    refine brI (fun h1 => ?_) (fun h1 => ?_)
    · conv => whnf
      have h1 : g ≠ 0 := by simpa using h1
      rw [if_neg h1]
      exact ⟨leA_refl rfl, leHm es⟩
    · conv => whnf
      have h1 : g = 0 := by simpa using h1
      refine ⟨⟨by omega, by omega⟩, ?_⟩
      conv => whnf
      refine ⟨2, ⟨by omega, fun _ => h0, fun _ => h1⟩, by show 2 - 2 < 2 - 1; omega, ?_⟩
      ((conv => whnf); refine And.intro ?_ ?_; repeat' first | refine leL_cons ?_ ?_ | exact leA_any | exact leA_refl rfl | exact leL_nil | refine leH_cons ?_ ?_ | exact leH_nil | exact leB_free | exact leB_dead | refine leB_cells ?_ | exact leB_map rfl | exact leB_gst rfl | exact leA_nil rfl | refine leA_agg ?_ | refine leA_tup ?_ | fail)
  · (refine ⟨by kernel_rfl, ?_⟩; (conv => whnf))
    have h0 : f = 0 := hi2 (by omega)
    have h1 : g = 0 := hi3 rfl
    simp only [if_pos h0, if_pos h1]
    refine ⟨⟨by omega, by omega⟩, ?_⟩
    conv => whnf
    refine ⟨⟨by omega, by omega⟩, ?_⟩
    conv => whnf
    refine ⟨[], _, f57 x y, ?_⟩
    conv => whnf
    exact ⟨leA_refl rfl, leHm es⟩
theorem f102 (es : Env0) {e : Ex} (h : VT e) (hr : allE (fun y => decide (y.k < 9)) e = true) : XcOK es e := by
  induction h with
  | num r _ => exact f102_num es r
  | var s _ => exact f102_var es s
  | un k a hk _ ih =>
    have hr : (decide (k < 9) && (allE (fun y => decide (y.k < 9)) a && true)) = true := hr
    simp only [Bool.and_eq_true, decide_eq_true_eq, Bool.and_true] at hr
    obtain rfl : k = 7 := by unfold K1 at hk; omega
    exact f102_neg es a (ih hr.2)
  | pow n a h1 h2 _ ih =>
    have hr : (decide ((8 : Int) < 9) && (allE (fun y => decide (y.k < 9)) a && true)) = true := hr
    simp only [Bool.and_eq_true, decide_eq_true_eq, Bool.and_true] at hr
    exact f102_pow es n h1 h2 a (ih hr.2)
  | bin k a b hk _ _ ih1 ih2 =>
    have hr : (decide (k < 9) && (allE (fun y => decide (y.k < 9)) a && (allE (fun y => decide (y.k < 9)) b && true))) = true := hr
    simp only [Bool.and_eq_true, decide_eq_true_eq, Bool.and_true] at hr
    rcases hk with rfl | rfl | rfl | rfl
    · exact f102_3 es a b (ih1 hr.2.1) (ih2 hr.2.2)
    · exact f102_4 es a b (ih1 hr.2.1) (ih2 hr.2.2)
    · exact f102_5 es a b (ih1 hr.2.1) (ih2 hr.2.2)
    · exact f102_6 es a b (ih1 hr.2.1) (ih2 hr.2.2)
end Go.Proofs.YtnijmbnkcmhfpaaGreatDoor

/-
  Exact values: evaluate.environment, evaluate.Exactly.
-/
namespace Go.Proofs.YtnijmbnkcmhfpaaGreatDoor
open Go Go.Sx
set_option maxRecDepth 100000
set_option maxHeartbeats 8000000
/-- The map of the names' values. -/
def envL : List Bytes → List Rt → Env0 → Env0
  | n :: ns, r :: rs, es => envL ns rs (mput .str n r es)
  | _, _, es => es
def envOk (ns : List Bytes) (rs : List Rt) : Bool := decide (ns.length = rs.length ∧ ns.length ≤ 200 ∧ (envL ns rs []).length = rs.length)
theorem f100_no (ns : List Bytes) (rs : List Rt) (h : ¬ (ns.length = rs.length ∧ ns.length ≤ 200)) (h1 : ns.length < 9223372036854775808) (h2 : rs.length < 9223372036854775808) :
    Fn 13 [] [.sl .str ns, .sl .rat rs] (.tup [.any, .bool false]) [(2000000, .dead)] := by
  refine fnT hT hmx Tryz.func13 rfl rfl (ex := [21]) ?_
  conv => whnf
  refine brI (fun h3 => ?_) (fun h3 => ?_)
  · conv => whnf
    exact ⟨leA_tup (leL_cons leA_any (leL_cons (leA_refl rfl) leL_nil)), leH_cons leB_dead leH_nil⟩
  · conv => whnf
    refine brI (fun h4 => ?_) (fun h4 => ?_)
    · conv => whnf
      exact ⟨leA_tup (leL_cons leA_any (leL_cons (leA_refl rfl) leL_nil)), leH_cons leB_dead leH_nil⟩
    · refine absurd ⟨?_, ?_⟩ h
      · have h3 : ((ns.length : Int) != (rs.length : Int)) = false := h3
        simp only [bne_eq_false_iff_eq] at h3; omega
      · simp only [decide_eq_false_iff_not] at h4; omega
theorem envL_drop {ns : List Bytes} {rs : List Rt} {i : Nat} {n : Bytes} {r : Rt} (es : Env0) (h1 : ns[i]? = some n) (h2 : rs[i]? = some r) : envL (ns.drop i) (rs.drop i) es = envL (ns.drop (i + 1)) (rs.drop (i + 1)) (mput .str n r es) := by
  rw [drop_get h1, drop_get h2]; rfl
theorem mput_len (n : Bytes) (r : Rt) : ∀ es : Env0, (mput .str n r es).length ≤ es.length + 1
  | [] => by simp [mput]
  | (y, v) :: l => by
    have := mput_len n r l
    simp only [mput]
    cases keyB .str n y
    · simp only [cond_false, List.length_cons]; omega
    · simp only [cond_true, List.length_cons]; omega
theorem f100 (ns : List Bytes) (rs : List Rt) (h : ns.length = rs.length ∧ ns.length ≤ 200) :
    Fn 13 [] [.sl .str ns, .sl .rat rs] (.tup [.mp 2000000, .bool (decide ((envL ns rs []).length = rs.length))]) [(2000000, .map .str .rat (envL ns rs []))] := by
  refine fnT hT hmx Tryz.func13 rfl rfl (ex := [21]) ?_
  conv => whnf
  refine brI (fun h0 => ?_) (fun h0 => ?_)
  · have h0 : ((ns.length : Int) != (rs.length : Int)) = true := h0
    refine absurd h.1 (fun e => ?_)
    rw [e] at h0; simp at h0
  conv => whnf
  refine brI (fun h0 => absurd h.2 (by simp only [decide_eq_true_eq] at h0; omega)) (fun _ => ?_)
  conv => whnf
  refine ⟨Nat × Env0, fun x => x.1 ≤ ns.length ∧ envL (ns.drop x.1) (rs.drop x.1) x.2 = envL ns rs [] ∧ x.2.length ≤ x.1, fun x => [(24, .int .i64 x.1)], fun x => [(21, .map .str .rat x.2)], fun x => ns.length - x.1, (0, []), ⟨by simp, rfl, by simp⟩, ?_, fun x hx => ?_⟩
  · ((conv => whnf); refine And.intro ?_ ?_; repeat' first | refine leL_cons ?_ ?_ | exact leA_any | exact leA_refl rfl | exact leL_nil | refine leH_cons ?_ ?_ | exact leH_nil | exact leB_free | exact leB_dead | refine leB_cells ?_ | exact leB_map rfl | exact leB_gst rfl | exact leA_nil rfl | refine leA_agg ?_ | refine leA_tup ?_ | fail)
  (refine ⟨by kernel_rfl, ?_⟩; (conv => whnf))
  obtain ⟨i, es⟩ := x
  obtain ⟨hx1, hx2, hx3⟩ := hx
  simp only at hx1 hx2 hx3
  refine brI (fun h3 => ?_) (fun h3 => ?_)
  · conv => whnf
    have h3 : i < ns.length := by simp only [decide_eq_true_eq] at h3; omega
    refine ⟨⟨by omega, by omega⟩, fun n hn => ?_⟩
    have hn : ns[i]? = some n := by simpa using hn
    conv => whnf
    refine ⟨⟨by omega, by simp only; omega⟩, fun r hr => ?_⟩
    have hr : rs[i]? = some r := by simpa using hr
    rw [envL_drop es hn hr] at hx2
    conv => whnf
    refine ⟨(i + 1, mput .str n r es), ⟨by simp only; omega, hx2, by have := mput_len n r es; simp only; omega⟩, by show ns.length - (i + 1) < ns.length - i; omega, ?_⟩
    ((conv => whnf); refine And.intro ?_ ?_; repeat' first | refine leL_cons ?_ ?_ | exact leA_any | exact leA_refl rfl | exact leL_nil | refine leH_cons ?_ ?_ | exact leH_nil | exact leB_free | exact leB_dead | refine leB_cells ?_ | exact leB_map rfl | exact leB_gst rfl | exact leA_nil rfl | refine leA_agg ?_ | refine leA_tup ?_ | fail)
    exact leA_int (by rw [wI (by simp only; omega)]; simp only; omega)
  · conv => whnf
    have h3 : ¬ i < ns.length := by simp only [decide_eq_false_iff_not] at h3; omega
    rw [List.drop_of_length_le (by omega), List.drop_of_length_le (by omega)] at hx2
    have hx2 : es = envL ns rs [] := hx2
    rw [← hx2]
    refine ⟨leA_tup (leL_cons (leA_refl rfl) (leL_cons (leA_bool ?_) leL_nil)), leH_cons (leB_map rfl) leH_nil⟩
    rw [Bool.eq_iff_iff, decide_eq_true_eq]
    constructor
    · intro h; have h : ((es.length : Int) == (rs.length : Int)) = true := h; simp only [beq_iff_eq] at h; omega
    · intro h; show ((es.length : Int) == (rs.length : Int)) = true; simp only [beq_iff_eq]; omega
end Go.Proofs.YtnijmbnkcmhfpaaGreatDoor

/-
  Exact values: evaluate.Exactly.
-/
namespace Go.Proofs.YtnijmbnkcmhfpaaGreatDoor
open Go Go.Sx
set_option maxRecDepth 100000
set_option maxHeartbeats 8000000
def hasN (es : Env0) (n : Bytes) : Bool := mhas .str n es
def exF (e : Ex) (ns : List Bytes) (rs : List Rt) : Rt × Int :=
  if (ns.length = rs.length ∧ ns.length ≤ 200) ∧ (envL ns rs []).length = rs.length ∧ ratB e = true ∧ rs.all rOk = true ∧ (nmE e).all (hasN (envL ns rs [])) = true then
    (if (xcE (envL ns rs []) e).2 = 0 then xcE (envL ns rs []) e else (⟨0, 0⟩, (xcE (envL ns rs []) e).2)) else (⟨0, 0⟩, 1)
theorem ratB_ok {e : Ex} (h : ratB e = true) : okT e = true ∧ allE (fun y => decide (y.k < 9)) e = true := by
  unfold ratB at h; simpa using h
theorem f51 (e : Ex) (ns : List Bytes) (rs : List Rt) (he : Sm e) (h1 : ns.length < 9223372036854775808) (h2 : rs.length < 9223372036854775808) :
    Fn 5 [] [.agg (exC e), .sl .str ns, .sl .rat rs] (rto (exF e ns rs)) [] := by
  obtain ⟨A, hA⟩ : ∃ A, exF e ns rs = A := ⟨_, rfl⟩
  rw [hA]
  refine fnT hT hmx Tryz.func5 rfl rfl (ex := []) ?_
  conv => whnf
  by_cases h : ns.length = rs.length ∧ ns.length ≤ 200
  rotate_left
  · have hA : A = (⟨0, 0⟩, 1) := by rw [← hA, exF, if_neg fun hh => h hh.1]
    subst hA
    refine ⟨[], [.dead], .tup [.any, .bool false], f100_no ns rs h h1 h2, ?_⟩
    conv => whnf
    exact ⟨leA_refl rfl, leH_nil⟩
  have h100 := f100 ns rs h
  obtain ⟨es, hes⟩ : ∃ es, es = envL ns rs [] := ⟨_, rfl⟩
  rw [← hes] at h100
  unfold exF at hA
  rw [← hes] at hA
  cases hd : decide (es.length = rs.length) with
  | false =>
    rw [hd] at h100
    have hA : A = (⟨0, 0⟩, 1) := by rw [← hA, if_neg fun hh => by simp at hd; exact hd hh.2.1]
    subst hA
    refine ⟨[], [.map .str .rat es], .tup [.mp 2000000, .bool false], h100, ?_⟩
    conv => whnf
    exact ⟨leA_refl rfl, leH_nil⟩
  | true =>
    rw [hd] at h100
    have hd : es.length = rs.length := by simpa using hd
    refine ⟨[], [.map .str .rat es], .tup [.mp 2000000, .bool true], h100, ?_⟩
    conv => whnf
    refine cbI [] (ratB e) (f101 e he) (fun h3 => ?_) (fun h3 => ?_)
    rotate_left
    · have hA : A = (⟨0, 0⟩, 1) := by rw [← hA, if_neg fun hh => by rw [h3] at hh; cases hh.2.2.1]
      subst hA
      conv => whnf
      exact ⟨leA_refl rfl, leH_nil⟩
    conv => whnf
    refine ⟨Nat, fun i => i ≤ rs.length ∧ (rs.drop i).all rOk = rs.all rOk, fun i => [(34, .int .i64 i)], fun _ => [], fun i => rs.length - i, 0, ⟨by simp, rfl⟩, ?_, fun i hi => ?_⟩
    · ((conv => whnf); refine And.intro ?_ ?_; repeat' first | refine leL_cons ?_ ?_ | exact leA_any | exact leA_refl rfl | exact leL_nil | refine leH_cons ?_ ?_ | exact leH_nil | exact leB_free | exact leB_dead | refine leB_cells ?_ | exact leB_map rfl | exact leB_gst rfl | exact leA_nil rfl | refine leA_agg ?_ | refine leA_tup ?_ | fail)
    (refine ⟨by kernel_rfl, ?_⟩; (conv => whnf))
    obtain ⟨hi1, hi2⟩ := hi
    refine brI (fun h4 => ?_) (fun h4 => ?_)
    · conv => whnf
      have h4 : i < rs.length := by simp only [decide_eq_true_eq] at h4; omega
      refine ⟨⟨by omega, by omega⟩, fun r hr => ?_⟩
      have hr : rs[i]? = some r := by simpa using hr
      rw [drop_get hr] at hi2
      simp only [List.all_cons] at hi2
      conv => whnf
      refine cbI [] (rOk r) (f54 r.n r.d) (fun h5 => ?_) (fun h5 => ?_)
      · conv => whnf
        rw [h5] at hi2
        refine ⟨i + 1, ⟨by omega, by simpa using hi2⟩, by show rs.length - (i + 1) < rs.length - i; omega, ?_⟩
        ((conv => whnf); refine And.intro ?_ ?_; repeat' first | refine leL_cons ?_ ?_ | exact leA_any | exact leA_refl rfl | exact leL_nil | refine leH_cons ?_ ?_ | exact leH_nil | exact leB_free | exact leB_dead | refine leB_cells ?_ | exact leB_map rfl | exact leB_gst rfl | exact leA_nil rfl | refine leA_agg ?_ | refine leA_tup ?_ | fail)
        exact leA_int (by rw [wI (by omega)]; omega)
      · conv => whnf
        rw [h5] at hi2
        have hA : A = (⟨0, 0⟩, 1) := by rw [← hA, if_neg fun hh => by rw [← hi2] at hh; simp at hh]
        subst hA
        exact ⟨leA_refl rfl, leH_nil⟩
    have h4 : ¬ i < rs.length := by simp only [decide_eq_false_iff_not] at h4; omega
    have hok : rs.all rOk = true := by rw [← hi2, List.drop_of_length_le (by omega)]; rfl
    clear hi1 hi2 h4
    conv => whnf
    have h91 := f91 e he
    have hnl : (nmE e).length ≤ 1000 := by
      have g1 := compact_le (srtS (namV (visE e)))
      have g2 : (srtS (namV (visE e))).length = (namV (visE e)).length := List.length_mergeSort _
      have g3 := namV_len (visE e)
      have g4 := visE_len e
      have g5 := szN_le e
      unfold nmE; omega
    generalize nmE e = nm at h91 hA hnl
    refine ⟨[], _, h91, ?_⟩
    conv => whnf
    refine ⟨Nat, fun i => i ≤ nm.length ∧ (nm.drop i).all (hasN es) = nm.all (hasN es), fun i => [(46, .int .i64 i)], fun _ => [], fun i => nm.length - i, 0, ⟨by simp, rfl⟩, ?_, fun i hi => ?_⟩
    · ((conv => whnf); refine And.intro ?_ ?_; repeat' first | refine leL_cons ?_ ?_ | exact leA_any | exact leA_refl rfl | exact leL_nil | refine leH_cons ?_ ?_ | exact leH_nil | exact leB_free | exact leB_dead | refine leB_cells ?_ | exact leB_map rfl | exact leB_gst rfl | exact leA_nil rfl | refine leA_agg ?_ | refine leA_tup ?_ | fail)
    (refine ⟨by kernel_rfl, ?_⟩; (conv => whnf))
    obtain ⟨hi1, hi2⟩ := hi
    refine brI (fun h4 => ?_) (fun h4 => ?_)
    · conv => whnf
      have h4 : i < nm.length := by simp only [decide_eq_true_eq] at h4; omega
      refine ⟨⟨by omega, by omega⟩, fun n hn => ?_⟩
      have hn : nm[i]? = some n := by simpa using hn
      rw [drop_get hn] at hi2
      simp only [List.all_cons] at hi2
      conv => whnf
      refine brI (fun h5 => ?_) (fun h5 => ?_)
      · conv => whnf
        have h5 : hasN es n = false := by simpa [hasN] using h5
        rw [h5] at hi2
        have hA : A = (⟨0, 0⟩, 1) := by rw [← hA, if_neg fun hh => by rw [← hi2] at hh; simp at hh]
        subst hA
        exact ⟨leA_refl rfl, leH_nil⟩
      · conv => whnf
        have h5 : hasN es n = true := by simpa [hasN] using h5
        rw [h5] at hi2
        refine ⟨i + 1, ⟨by omega, by simpa using hi2⟩, by show nm.length - (i + 1) < nm.length - i; omega, ?_⟩
        ((conv => whnf); refine And.intro ?_ ?_; repeat' first | refine leL_cons ?_ ?_ | exact leA_any | exact leA_refl rfl | exact leL_nil | refine leH_cons ?_ ?_ | exact leH_nil | exact leB_free | exact leB_dead | refine leB_cells ?_ | exact leB_map rfl | exact leB_gst rfl | exact leA_nil rfl | refine leA_agg ?_ | refine leA_tup ?_ | fail)
        exact leA_int (by rw [wI (by omega)]; omega)
    have h4 : ¬ i < nm.length := by simp only [decide_eq_false_iff_not] at h4; omega
    have hnm : nm.all (hasN es) = true := by rw [← hi2, List.drop_of_length_le (by omega)]; rfl
    clear hi1 hi2 h4
    have h102 : XcOK es e := f102 es (okT_VT (ratB_ok h3).1) (ratB_ok h3).2
    unfold XcOK at h102
    rw [if_pos ⟨h, hd, h3, hok, hnm⟩] at hA
    generalize xcE es e = B at h102 hA
    obtain ⟨r, f⟩ := B
    conv => whnf
    refine ⟨[.map .str .rat es], rto (r, f), h102.sw [(21, 1000001)] rfl, ?_⟩
    conv => whnf
    refine brI (fun h5 => ?_) (fun h5 => ?_)
    · conv => whnf
      have h5 : f ≠ 0 := by simpa using h5
      rw [if_neg h5] at hA
      subst hA
      exact ⟨leA_refl rfl, leH_nil⟩
    · conv => whnf
      have h5 : f = 0 := by simpa using h5
      rw [if_pos h5] at hA
      subst hA
      exact ⟨leA_tup (leL_cons (leA_refl rfl) (leL_cons (leA_int h5.symm) leL_nil)), leH_nil⟩
end Go.Proofs.YtnijmbnkcmhfpaaGreatDoor
