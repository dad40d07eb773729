/-
  A call that answers a bool.
-/
import Derived.Test.YtnijmbnkcmhfpaaGreatDoorQSxW
import Derived.Test.YtnijmbnkcmhfpaaGreatDoorQUc
set_option linter.unusedVariables false
set_option linter.unusedSimpArgs false
namespace Go.Proofs.YtnijmbnkcmhfpaaGreatDoor
open Go Go.Sx
/-- A call that answers a bool: both answers. -/
theorem cbI {Pc K : List Blk → AV → Prop} (bs : List Blk) (b : Bool) (hc : Pc bs (.bool b)) (h1 : b = true → K bs (.bool true)) (h2 : b = false → K bs (.bool false)) : ∃ bs' r, Pc bs' r ∧ K bs' r := by
  cases b
  · exact ⟨bs, _, hc, h2 rfl⟩
  · exact ⟨bs, _, hc, h1 rfl⟩
end Go.Proofs.YtnijmbnkcmhfpaaGreatDoor

/-
  The reference: operations with numbers.
-/
namespace Go.Proofs.YtnijmbnkcmhfpaaGreatDoor
open Go Go.Sx
set_option maxRecDepth 100000
set_option maxHeartbeats 8000000
def zk (k : Int) (l : List Ex) : Int := if l.all (fun x => x.k == 1) then (if 3 ≤ k ∧ k ≤ 8 then 1 else 0) else 0
/-- What the reference's fold returns. -/
def foldR (k n : Int) (l : List Ex) : AV := match foldN k n l with
  | some r => .tup [.agg (exC (ratE r)), .bool true]
  | none => .tup [.agg (exC (.mk (zk k l) ⟨0, 0⟩ [] 0 [])), .bool false]
def foldP (p : Rt × Int) : AV := match okN p with | some r => .tup [.agg (exC (ratE r)), .bool true] | none => .tup [.agg (exC (.mk 1 ⟨0, 0⟩ [] 0 [])), .bool false]
theorem foldP_map {f : Nat → Nat} (p : Rt × Int) : (foldP p).mapI f = foldP p := by unfold foldP; cases okN p <;> rfl
theorem leA_foldR {h h' : Hp} (p : Rt × Int) (hp : p.2 ≠ 0 → p.1 = ⟨0, 0⟩) : leA h h' (.tup [.agg [.int .i64 1, .int .i64 p.1.n, .int .i64 p.1.d, .str [], .int .i64 0, .nilsl], .bool (p.2 == 0)])
    (foldP p) := by
  obtain ⟨r, e⟩ := p
  unfold foldP okN
  by_cases he : e = 0
  · subst he
    exact leA_tup (leL_cons (leA_agg (leL_cons (leA_refl rfl) (leL_cons (leA_refl rfl) (leL_cons (leA_refl rfl) (leL_cons (leA_refl rfl) (leL_cons (leA_refl rfl) (leL_cons (leA_nil rfl) leL_nil))))))) (leL_cons (leA_refl rfl) leL_nil))
  · have : (e == 0) = false := by simpa using he
    have hr : r = ⟨0, 0⟩ := hp he
    subst hr
    simp only [he, if_false, this]
    exact leA_tup (leL_cons (leA_agg (leL_cons (leA_refl rfl) (leL_cons (leA_refl rfl) (leL_cons (leA_refl rfl) (leL_cons (leA_refl rfl) (leL_cons (leA_refl rfl) (leL_cons (leA_nil rfl) leL_nil))))))) (leL_cons (leA_refl rfl) leL_nil))
theorem foldR_eq {k n : Int} {l : List Ex} {p : Rt × Int} (hk : 3 ≤ k ∧ k ≤ 8) (hl : l.all (fun x => x.k == 1) = true) (h : foldN k n l = okN p) :
    foldR k n l = foldP p := by
  unfold foldR foldP; rw [h]
  cases okN p with
  | some r => rfl
  | none => simp only [zk, hl, if_true, hk, and_self]
theorem q0_get {l : List Ex} {a : Ex} (h : l[0]? = some a) : q0 l = a.q := by
  cases l with
  | nil => simp at h
  | cons x l => simp at h; rw [← h]; rfl
theorem q1_get {l : List Ex} {b : Ex} (h : l[1]? = some b) : q1 l = b.q := by
  rcases l with _ | ⟨x, _ | ⟨y, l⟩⟩
  · simp at h
  · simp at h
  · simp at h; rw [← h]; rfl
theorem ix0 {P : Ex → Prop} {a : Ex} {l : List Ex} (h : P a) : ((0 : Int) ≤ 0 ∧ (0 : Int) < ((a :: l).length : Int)) ∧ ∀ x, (a :: l)[(0 : Int).toNat]? = some x → P x :=
  ⟨⟨by omega, by simp only [List.length_cons]; omega⟩, fun x hx => (show a = x by simpa using hx) ▸ h⟩
theorem ix1 {P : Ex → Prop} {a b : Ex} {l : List Ex} (h : P b) : ((0 : Int) ≤ 1 ∧ (1 : Int) < ((a :: b :: l).length : Int)) ∧ ∀ x, (a :: b :: l)[(1 : Int).toNat]? = some x → P x :=
  ⟨⟨by omega, by simp only [List.length_cons]; omega⟩, fun x hx => (show b = x by simpa using hx) ▸ h⟩
end Go.Proofs.YtnijmbnkcmhfpaaGreatDoor
