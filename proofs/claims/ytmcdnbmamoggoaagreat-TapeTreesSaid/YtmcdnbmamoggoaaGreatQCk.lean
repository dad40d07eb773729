/-
  The reference: operations with numbers.
-/
import Derived.Test.YtmcdnbmamoggoaaGreatQUc
import Derived.Test.YtmcdnbmamoggoaaGreatQSxW
set_option linter.unusedVariables false
set_option linter.unusedSimpArgs false
namespace Go.Proofs.YtmcdnbmamoggoaaGreat
open Go Go.Sx
set_option maxRecDepth 100000
set_option maxHeartbeats 8000000
def zk (k : Int) (l : List Ex) : Int := if l.all (fun x => x.k == 1) then (if 3 ≤ k ∧ k ≤ 8 then 1 else 0) else 0
/-- What the reference's fold returns. -/
def foldR (k n : Int) (l : List Ex) : AV := match foldN k n l with
  | some r => .tup [.agg (exC (ratE r)), .bool true]
  | none => .tup [.agg (exC (.mk (zk k l) ⟨0, 0⟩ [] 0 [])), .bool false]
def foldP (p : Rt × Int) : AV := match okN p with | some r => .tup [.agg (exC (ratE r)), .bool true] | none => .tup [.agg (exC (.mk 1 ⟨0, 0⟩ [] 0 [])), .bool false]
theorem foldP_map {f : Nat → Nat} (p : Rt × Int) : (foldP p).mapI f = foldP p := by unfold foldP; cases okN p <;> rfl
theorem leA_foldR {h h' : Hp} (p : Rt × Int) (hp : p.2 ≠ 0 → p.1 = ⟨0, 0⟩) : leA h h' (.tup [.agg [.int .i64 1, .int .i64 p.1.n, .int .i64 p.1.d, .str [], .int .i64 0, .nilsl], .bool (p.2 == 0)])
    (foldP p) := by
  obtain ⟨r, e⟩ := p
  unfold foldP okN
  by_cases he : e = 0
  · subst he
    exact leA_tup (leL_cons (leA_agg (leL_cons (leA_refl rfl) (leL_cons (leA_refl rfl) (leL_cons (leA_refl rfl) (leL_cons (leA_refl rfl) (leL_cons (leA_refl rfl) (leL_cons (leA_nil rfl) leL_nil))))))) (leL_cons (leA_refl rfl) leL_nil))
  · have : (e == 0) = false := by simpa using he
    have hr : r = ⟨0, 0⟩ := hp he
    subst hr
    simp only [he, if_false, this]
    exact leA_tup (leL_cons (leA_agg (leL_cons (leA_refl rfl) (leL_cons (leA_refl rfl) (leL_cons (leA_refl rfl) (leL_cons (leA_refl rfl) (leL_cons (leA_refl rfl) (leL_cons (leA_nil rfl) leL_nil))))))) (leL_cons (leA_refl rfl) leL_nil))
theorem foldR_eq {k n : Int} {l : List Ex} {p : Rt × Int} (hk : 3 ≤ k ∧ k ≤ 8) (hl : l.all (fun x => x.k == 1) = true) (h : foldN k n l = okN p) :
    foldR k n l = foldP p := by
  unfold foldR foldP; rw [h]
  cases okN p with
  | some r => rfl
  | none => simp only [zk, hl, if_true, hk, and_self]
theorem q0_get {l : List Ex} {a : Ex} (h : l[0]? = some a) : q0 l = a.q := by
  cases l with
  | nil => simp at h
  | cons x l => simp at h; rw [← h]; rfl
theorem q1_get {l : List Ex} {b : Ex} (h : l[1]? = some b) : q1 l = b.q := by
  rcases l with _ | ⟨x, _ | ⟨y, l⟩⟩
  · simp at h
  · simp at h
  · simp at h; rw [← h]; rfl
theorem ix0 {P : Ex → Prop} {a : Ex} {l : List Ex} (h : P a) : ((0 : Int) ≤ 0 ∧ (0 : Int) < ((a :: l).length : Int)) ∧ ∀ x, (a :: l)[(0 : Int).toNat]? = some x → P x :=
  ⟨⟨by omega, by simp only [List.length_cons]; omega⟩, fun x hx => (show a = x by simpa using hx) ▸ h⟩
theorem ix1 {P : Ex → Prop} {a b : Ex} {l : List Ex} (h : P b) : ((0 : Int) ≤ 1 ∧ (1 : Int) < ((a :: b :: l).length : Int)) ∧ ∀ x, (a :: b :: l)[(1 : Int).toNat]? = some x → P x :=
  ⟨⟨by omega, by simp only [List.length_cons]; omega⟩, fun x hx => (show b = x by simpa using hx) ▸ h⟩
end Go.Proofs.YtmcdnbmamoggoaaGreat

/-
  A call that answers a bool.
-/
namespace Go.Proofs.YtmcdnbmamoggoaaGreat
open Go Go.Sx
/-- A call that answers a bool: both answers. -/
theorem cbI {Pc K : List Blk → AV → Prop} (bs : List Blk) (b : Bool) (hc : Pc bs (.bool b)) (h1 : b = true → K bs (.bool true)) (h2 : b = false → K bs (.bool false)) : ∃ bs' r, Pc bs' r ∧ K bs' r := by
  cases b
  · exact ⟨bs, _, hc, h2 rfl⟩
  · exact ⟨bs, _, hc, h1 rfl⟩
end Go.Proofs.YtmcdnbmamoggoaaGreat

/-
  A contract under arguments that say more.
-/
namespace Go.Sx
open Go
theorem FnOK.arg {P : Program} {f : Nat} {H : Hp} {A A' : List AV} {r : AV} {H' : Hp} (h : FnOK P f H A r H') (ha : ∀ (ρ : Env) (vs : List Value), Rs ρ A' vs → Rs ρ A vs) : FnOK P f H A' r H' :=
  ⟨h.1, fun w M pt ow S vs hc hk hv => h.2 w M pt ow S vs hc hk (ha _ _ hv)⟩
end Go.Sx
namespace Go.Proofs.YtmcdnbmamoggoaaGreat
open Go Go.Sx
theorem R_nil {ρ : Env} {k : Elt} {v : Value} (h : R ρ .nilsl v) : R ρ (.sl k []) v := by
  obtain rfl : v = .slice none 0 0 := h
  exact .sl k [] none 0 0 0 0 rfl (Nat.le_refl _) (by decide) (fun h => absurd rfl h) (fun i x h => by simp at h)
/-- A tree without operands, its list nil. -/
abbrev nilV (k : Int) (q : Rt) (s : Bytes) (p : Int) : AV := .agg [.int .i64 k, .int .i64 q.n, .int .i64 q.d, .str s, .int .i64 p, .nilsl]
theorem R_nilV {ρ : Env} {k : Int} {q : Rt} {s : Bytes} {p : Int} {v : Value} (h : R ρ (nilV k q s p) v) : R ρ (.agg (exC (.mk k q s p []))) v := by
  obtain ⟨vs, hv, h⟩ := h
  refine ⟨vs, hv, ?_⟩
  match vs.toList, h with
  | [a, b, c, d, e, f], ⟨h1, h2, h3, h4, h5, h6, _⟩ => exact ⟨h1, h2, h3, h4, h5, R_nil h6, trivial⟩
theorem nil1 {P : Program} {f : Nat} {H : Hp} {k : Int} {q : Rt} {s : Bytes} {p : Int} {A : List AV} {r : AV} {H' : Hp} (h : FnOK P f H (.agg (exC (.mk k q s p [])) :: A) r H') : FnOK P f H (nilV k q s p :: A) r H' :=
  h.arg fun ρ vs hv => match vs, hv with
    | _ :: _, ⟨h1, h2⟩ => ⟨R_nilV h1, h2⟩
theorem nil2 {P : Program} {f : Nat} {H : Hp} {a : AV} {k : Int} {q : Rt} {s : Bytes} {p : Int} {A : List AV} {r : AV} {H' : Hp} (h : FnOK P f H (a :: .agg (exC (.mk k q s p [])) :: A) r H') : FnOK P f H (a :: nilV k q s p :: A) r H' :=
  h.arg fun ρ vs hv => match vs, hv with
    | _ :: _ :: _, ⟨h1, h2, h3⟩ => ⟨h1, R_nilV h2, h3⟩
end Go.Proofs.YtmcdnbmamoggoaaGreat
