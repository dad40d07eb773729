/-
  A walk in parts: the body is cut behind some of its statements; each part is carried out by itself, from a state that says no more than the rest wants.
-/
import Derived.Test.YtmcdnbmamoggoaaQSxY
set_option linter.unusedVariables false
set_option linter.unusedSimpArgs false
namespace Go.Sx
open Go
/-- What a part of the body brings about, to the function's end. -/
def Fin (T : Tab) (res : List ResultVar) (ex : List Nat) (r : AV) (H' : Hp) : Exit → St → Prop := fun e σ => match e with
  | .normal => finK T res ex r H' σ
  | .ret => finK T res ex r H' σ
  | _ => False
structure SemOK (P : Program) (T : Tab) (res : List ResultVar) (ex : List Nat) (r : AV) (H' : Hp) (c : Code) (σ : St) : Prop where
  sem : ∀ (c0 : Ctx) (a : Act) (w : World) (Q : Exit → Act → World → Prop), Rel c0 σ a w → (∀ e σ a w, Rel c0 σ a w → Fin T res ex r H' e σ → Q e a w) → c.wpIn Fence.wide 0 P Q a w
def fnC (T : Tab) (ex : List Nat) (c : Code) (n : Nat) (H : Hp) (A : List AV) (H' : Hp) (W : St → Prop) : Prop :=
  frcL (A ++ anys (n - A.length)) fun sl => frcH (appH (freesOf (codeAlloc T c)) H) fun hp =>
    match disB (codeAlloc T c) (idsL A ++ hids H), disB (codeAlloc T c) (keys H), far 0 (keys H), far ex.length (keys H'), noFree (blks H), nodupB (keys H'), lowB ex && nodupB ex with
    | true, true, true, true, true, true, true => W ⟨sl, hp⟩
    | _, _, _, _, _, _, _ => False
/-! ### The execution with one continuation for each way out: none is copied from level to level -/
abbrev RM3 := Bool → St → (St → Prop) → (Nat → St → Prop) → (St → Prop) → Prop
def K3 (n : St → Prop) (e : Nat → St → Prop) (r : St → Prop) : Exit → St → Prop := fun x σ => match x with
  | .normal => n σ
  | .exit i => e i σ
  | .ret => r σ
  | _ => False
def sSkip : RM3 := fun _ σ n _ _ => n σ
noncomputable def sRegion (T : Tab) (C : Con) (_ : Nat) (ops : Array Oper) (draw : Bool) : RM3 := fun _ σ n _ _ => @Bool.rec (fun _ => Prop)
      (opsR T C ops.toList ops.toList σ fun σ => renormK (appD ops.toList) σ n)
      (opsS T C ops.toList ops.toList σ fun fps σ => fpOk 0 ops.toList fps = true ∧ Region.lexB .any ops = true ∧ renormK (appD ops.toList) σ n) draw
def sSeq (_ _ : Code) (iha ihb : RM3) : RM3 := fun top σ n e r => iha top σ (fun σ => ihb top σ n e r) e r
def sCond (c : Operand) (_ _ : Code) (iha ihb : RM3) : RM3 := fun top σ n e r => match evalA σ.sl c with
    | .bool t => @Bool.rec (fun _ => Prop) (ihb top σ n e r) (iha top σ n e r) t
    | .ub p q => (p → iha top σ n e r) ∧ (q → ihb top σ n e r)
    | _ => False
def sBlock (id : Nat) (_ : Code) (ih : RM3) : RM3 := fun top σ n e r => ih top σ n (fun i σ => match Nat.beq i id with
      | true => n σ
      | false => e i σ) r
def sLoop (T : Tab) (c : Code) (ih : RM3) : RM3 := fun top σ _ e r => ∃ (X : Type) (I : X → Prop) (us : X → List (Nat × AV)) (hu : X → List (Nat × Blk)) (μ : X → Nat) (x₀ : X),
      I x₀ ∧ (frcN (codeDst c) fun ws => frcN (codeAlloc T c) fun ds => genK ws ds (us x₀) (hu x₀) σ (fun τ => leS σ τ)) ∧
      ∀ x, I x → frcN (codeDst c) fun ws => frcN (codeAlloc T c) fun ds => genK ws ds (us x) (hu x) σ fun τ => disB (frees τ.hp) τ.ids = true ∧
        ih top τ (fun σ' => ∃ x', I x' ∧ μ x' < μ x ∧ genK ws ds (us x') (hu x') σ fun τ' => leS σ' τ') e r
def sRange (T : Tab) (C : Con) (f : Operand) (ps : Array Tmp) (asg body : Code) (iha ihb : RM3) : RM3 := fun top σ n e r => match top, evalA σ.sl f with
    | true, .fn g caps => ∃ (is : List Nat) (X Y : Type) (hb : X → List Blk) (live : X → Bool) (pend : X → Code) (args : Y → List AV) (next : X → Y → X) (x₀ xE : X) (rv : AV) (ib : List Blk),
        hgets σ.hp is = hb x₀ ∧ live x₀ = true ∧ rfOk T σ.hp g is caps ib = true ∧ disB (codeAlloc T asg ++ codeAlloc T body) (renL is) = true ∧ (∀ x, plainBs (hb x) = true ∧ lenE is (hb x) = true) ∧ (∀ y, nilB (idsL (args y)) = true) ∧
        (∀ (l : Nat) (J : X → GJ), (∀ x y, live x = true → C.cb l [(CBID, .gst (J x))] (args y) (.bool (live (next x y))) [(CBID, .gst (J (next x y)))]) →
          C.fn g ((CBID, .gst (J x₀)) :: zipH (nub (idsL caps)) (hgets σ.hp (nub (idsL caps)))) (.cb l :: caps) rv ((CBID, .gst (J xE)) :: zipH (nub (idsL caps)) ib)) ∧
        (∀ x y, live x = true → setPs ps.toList (args y) (mvlL is σ.sl) fun sl =>
            iha false ⟨sl, appH (freesOf (codeAlloc T asg ++ codeAlloc T body)) (zipH (renL is) (hb x))⟩ (fun τ =>
              ihb false τ (fun τ => live (next x y) = true ∧ endK is (hb (next x y)) τ) (fun id τ => live (next x y) = false ∧ pend (next x y) = .exit id ∧ endK is (hb (next x y)) τ)
                (fun τ => live (next x y) = false ∧ pend (next x y) = .ret ∧ endK is (hb (next x y)) τ)) (fun _ _ => False) (fun _ => False)) ∧
        (match σ with
          | ⟨sl, hp⟩ => hsetsK hp is (hb xE) fun hp => hsetsK hp (nub (idsL caps)) ib fun hp => @Bool.rec (fun _ => Prop)
              (match pend xE with
                | .exit id => e id ⟨sl, hp⟩
                | .ret => r ⟨sl, hp⟩
                | _ => False)
              (n ⟨sl, hp⟩) (live xE))
    | _, _ => False
def sExit (id : Nat) : RM3 := fun _ σ _ e _ => e id σ
def sRet : RM3 := fun _ σ _ _ r => r σ
def sNo : RM3 := fun _ _ _ _ _ => False
noncomputable def code3 (T : Tab) (C : Con) (c : Code) : RM3 :=
  @Code.rec (fun _ => RM3) sSkip (sRegion T C) sSeq sCond sBlock (sLoop T) (sRange T C) sExit (fun _ _ => sNo) (fun _ => sNo) (fun _ => sNo) sRet (fun _ => sNo) c
theorem code3_eq (T : Tab) (C : Con) : ∀ (c : Code) (top : Bool) (σ : St) (n : St → Prop) (e : Nat → St → Prop) (r : St → Prop), code3 T C c top σ n e r = codeR T C c top σ (K3 n e r) := by
  intro c
  induction c with
  | skip => intro top σ n e r; rfl
  | region id ops draw => intro top σ n e r; cases draw <;> rfl
  | seq a b iha ihb =>
    intro top σ n e r
    show code3 T C a top σ (fun σ => code3 T C b top σ n e r) e r = codeR T C a top σ (fun x σ => match x with
      | .normal => codeR T C b top σ (K3 n e r)
      | .exit i => K3 n e r (.exit i) σ
      | .ret => K3 n e r .ret σ
      | _ => False)
    have hk : K3 (fun σ => code3 T C b top σ n e r) e r = fun x σ => match x with
      | .normal => codeR T C b top σ (K3 n e r)
      | .exit i => K3 n e r (.exit i) σ
      | .ret => K3 n e r .ret σ
      | _ => False := by
      funext x σ
      cases x <;> first | rfl | exact ihb _ _ _ _ _
    rw [iha, hk]
  | cond c a b iha ihb =>
    intro top σ n e r
    show sCond c a b (code3 T C a) (code3 T C b) top σ n e r = rCond c a b (codeR T C a) (codeR T C b) top σ (K3 n e r)
    simp only [sCond, rCond, iha, ihb]; rfl
  | block id c ih =>
    intro top σ n e r
    show code3 T C c top σ n (fun i σ => match Nat.beq i id with | true => n σ | false => e i σ) r = codeR T C c top σ (fun x σ => match x with
      | .normal => K3 n e r .normal σ
      | .exit i => match Nat.beq i id with
        | true => K3 n e r .normal σ
        | false => K3 n e r (.exit i) σ
      | .ret => K3 n e r .ret σ
      | _ => False)
    have hk : K3 n (fun i σ => match Nat.beq i id with | true => n σ | false => e i σ) r = fun x σ => match x with
      | .normal => K3 n e r .normal σ
      | .exit i => match Nat.beq i id with
        | true => K3 n e r .normal σ
        | false => K3 n e r (.exit i) σ
      | .ret => K3 n e r .ret σ
      | _ => False := by funext x σ; cases x <;> rfl
    rw [ih, hk]
  | loop c ih =>
    intro top σ n e r
    show sLoop T c (code3 T C c) top σ n e r = rLoop T c (codeR T C c) top σ (K3 n e r)
    simp only [sLoop, rLoop, ih, frcN_eq]
    have hk : ∀ (A : St → Prop), K3 A e r = fun x σ => match x with
        | .normal => A σ
        | .exit i => (match Exit.exit i with | .normal => n σ | .exit i => e i σ | .ret => r σ | _ => False)
        | .ret => (match Exit.ret with | .normal => n σ | .exit i => e i σ | .ret => r σ | _ => False)
        | _ => False := fun A => by funext x σ; cases x <;> rfl
    simp only [hk]; rfl
  | rangeFunc f ps a b iha ihb =>
    intro top σ n e r
    show sRange T C f ps a b (code3 T C a) (code3 T C b) top σ n e r = rRange T C f ps a b (codeR T C a) (codeR T C b) top σ (K3 n e r)
    simp only [sRange, rRange, iha, ihb]
    have hk : ∀ (A B : St → Prop) (E : Nat → St → Prop), K3 A E B = fun x σ => match x with
        | .normal => A σ
        | .exit i => E i σ
        | .ret => B σ
        | _ => False := fun A B E => by funext x σ; cases x <;> rfl
    have hk2 : ∀ (A : St → Prop), K3 A (fun _ _ => False) (fun _ => False) = fun x σ => match x with
        | .normal => A σ
        | _ => False := fun A => by funext x σ; cases x <;> rfl
    cases top with
    | false => rfl
    | true => simp only [hk2]; simp only [hk]; rfl
  | exit id => intro top σ n e r; rfl
  | scope b ih => intro top σ n e r; rfl
  | label l => intro top σ n e r; rfl
  | goto l => intro top σ n e r; rfl
  | ret => intro top σ n e r; rfl
  | refuse w => intro top σ n e r; rfl
/-- The body behind its first statements; its first statements. -/
def dropS : Nat → Code → Code
  | 0, c => c
  | n + 1, .seq _ y => dropS n y
  | _ + 1, c => c
def takeS : Nat → Code → Code
  | 0, _ => .skip
  | n + 1, .seq x y => .seq x (takeS n y)
  | _ + 1, _ => .refuse ""
def fcS : Code → (Code → Prop) → Prop
  | .seq a b, k => fcS b fun b => k (.seq a b)
  | c, k => k c
theorem fcS_iff : ∀ (c : Code) (k : Code → Prop), fcS c k ↔ k c := by
  intro c
  induction c with
  | seq a b _ ihb => intro k; show fcS b _ ↔ _; rw [ihb]
  | _ => intro k; exact Iff.rfl
section
variable {P : Program} {T : Tab}
theorem cut_sound (hT : TabOK P T) (hmx : P.follows .mixedOrders = true) {c : Ctx} {K : Exit → St → Prop} {Q : Exit → Act → World → Prop} : ∀ (n : Nat) (code : Code) (σ : St) (a : Act) (w : World),
    Rel c σ a w → codeK T (CN P) true (takeS n code) σ K → (∀ σ a w, Rel c σ a w → K .normal σ → (dropS n code).wpIn Fence.wide 0 P Q a w) → (∀ e σ a w, Rel c σ a w → e ≠ .normal → K e σ → Q e a w) → code.wpIn Fence.wide 0 P Q a w
  | 0, code, σ, a, w, hr, h, hn, _ => hn σ a w hr (by simpa only [takeS, codeK] using h)
  | n + 1, code, σ, a, w, hr, h, hn, hq => by
    cases code with
    | seq x y =>
      simp only [takeS, codeK] at h
      refine wpIn_seq (codeK_sound hT hmx x true ⟨Fence.wide, .inl rfl⟩ c σ _ _ a w (fun _ => rfl) hr h fun e σ' a' w' hr' hk' => ?_)
      cases e with
      | normal => exact cut_sound hT hmx n y σ' a' w' hr' hk' hn hq
      | exit i => exact hq _ _ _ _ hr' (by simp) hk'
      | ret => exact hq _ _ _ _ hr' (by simp) hk'
      | _ => exact hk'.elim
    | _ => exact h.elim
theorem fin_K3 (T : Tab) (res : List ResultVar) (ex : List Nat) (r : AV) (H' : Hp) : K3 (fun σ => finK T res ex r H' σ) (fun _ _ => False) (fun σ => finK T res ex r H' σ) = Fin T res ex r H' := by
  funext x σ; cases x <;> rfl
/-- The last part. -/
theorem sem_end (hT : TabOK P T) (hmx : P.follows .mixedOrders = true) {res : List ResultVar} {ex : List Nat} {r : AV} {H' : Hp} {c : Code} {sl : List AV} {hp : Hp}
    (h : frcL sl fun sl => frcH hp fun hp => code3 T (CN P) c true ⟨sl, hp⟩ (fun σ => finK T res ex r H' σ) (fun _ _ => False) (fun σ => finK T res ex r H' σ)) : SemOK P T res ex r H' c ⟨sl, hp⟩ := by
  rw [frcL_iff, frcH_iff, code3_eq, codeR_eq, fin_K3] at h
  refine ⟨fun c0 a w Q hr hq => ?_⟩
  exact codeK_sound hT hmx c true ⟨Fence.wide, .inl rfl⟩ c0 _ _ _ a w (fun _ => rfl) hr h hq
/-- A part, and what comes behind it from any state of a family. -/
theorem sem_cut (hT : TabOK P T) (hmx : P.follows .mixedOrders = true) {res : List ResultVar} {ex : List Nat} {r : AV} {H' : Hp} {c : Code} {sl : List AV} {hp : Hp} (n : Nat) {X : Type} (σm : X → St)
    (hfr : ∀ x, disB (frees (σm x).hp) (σm x).ids = true)
    (h1 : frcL sl fun sl => frcH hp fun hp => fcS (takeS n c) fun pc => code3 T (CN P) pc true ⟨sl, hp⟩ (fun σ => ∃ x, leS σ (σm x)) (fun _ _ => False) (fun σ => finK T res ex r H' σ))
    (h2 : ∀ x, SemOK P T res ex r H' (dropS n c) (σm x)) : SemOK P T res ex r H' c ⟨sl, hp⟩ := by
  rw [frcL_iff, frcH_iff, fcS_iff, code3_eq, codeR_eq] at h1
  refine ⟨fun c0 a w Q hr hq => ?_⟩
  refine cut_sound hT hmx n c _ a w hr h1 (fun σ a w hr hk => ?_) (fun e σ a w hr hne hk => ?_)
  · obtain ⟨x, hx⟩ := hk
    exact (h2 x).sem c0 a w Q (hr.weaken hx (hfr x)) hq
  · cases e with
    | normal => exact absurd rfl hne
    | ret => exact hq _ _ _ _ hr hk
    | _ => exact hk.elim
variable {c : Ctx} {σ : St} {a : Act} {w : World}
open Classical in
set_option maxHeartbeats 1000000 in
/-- A FUNCTION. -/
theorem fnC_sound (hT : TabOK P T) (hmx : P.follows .mixedOrders = true) {f : Nat} {fn : Func} {code : Code} (hf : P.funcs[f]? = some fn) (hb : fn.body = some code) (hname : (fn.name == "runtime.NumGoroutine") = false)
    {ex : List Nat} {H H' : Hp} {A : List AV} {r : AV} (h : fnC T ex code fn.ntmps H A H' (SemOK P T fn.results.toList ex r H' code)) : FnOK P f H A r H' := by
  unfold fnC at h
  rw [frcL_iff, frcH_iff] at h
  split at h
  case h_2 => exact h.elim
  rename_i hd1 hd2 hfar hfar' hnf hnod hex
  have hk := h
  rw [disB_iff] at hd1 hd2
  rw [Bool.and_eq_true] at hex
  have hexlo := lowB_iff hex.1
  have hexnd := nodupB_iff hex.2
  have hnod := nodupB_iff hnod
  rw [blks_eq] at hnf
  refine ⟨⟨fn, hf, by rw [hb]; rfl, hname⟩, fun w M pt ow S vs hcore hcont hargs => ?_⟩
  let c0 : Ctx := { M0 := M, w0 := w, mine := fun b => (∃ i, bl pt ow i = some b) ∨ S b, sm := S, pt0 := pt, ow0 := ow }
  have hkout : ∀ i, HKey H i → i ∉ codeAlloc T code := fun i hi hj => hd2 i hj (key_iff.2 hi)
  have hout : ∀ i x, hget H i = x → x ≠ .dead → hget (appH (freesOf (codeAlloc T code)) H) i = x := fun i x hx hn => by
    rw [hget_app_out (hkout i (key_of_get (by rw [hx]; exact hn)))]; exact hx
  have hback : ∀ i x, hget (appH (freesOf (codeAlloc T code)) H) i = x → x ≠ .free → hget H i = x := fun i x hx hn => by
    by_cases hi : i ∈ codeAlloc T code
    · rw [hget_app_in hi] at hx; exact absurd hx.symm hn
    · rw [hget_app_out hi] at hx; exact hx
  have hlen := hargs.length
  have hkpt : ∀ i, (hget H i).isPt = true → HKey H i := fun i hi => key_of_get fun e => by rw [e] at hi; cases hi
  have hkow : ∀ i, (hget H i).isBuf = true → HKey H i := fun i hi => key_of_get fun e => by rw [e] at hi; cases hi
  have hg0 : Good c0 M pt ow S (appH (freesOf (codeAlloc T code)) H) w := {
    os := rfl, tape := rfl, output := rfl, size := Nat.le_refl _, keep := fun _ _ _ => rfl, fresh := hcore.fresh, m0 := fun _ h => h, m1 := hcore.fresh, mt := hcore.mt
    gm := hcore.gm, gd := hcore.gd, gl := fun b hb => .inr ⟨.inr hb, hb⟩
    loc := fun i b hb => .inr ⟨.inl ⟨i, hb⟩, by
      have hk : HKey H i := by
        unfold bl at hb
        cases hq : pt i with
        | some z => exact hkpt i (hcore.dpt i z hq)
        | none =>
          rw [hq] at hb
          cases hq2 : ow i with
          | none => rw [hq2] at hb; cases hb
          | some z => exact hkow i (hcore.dow i z hq2)
      exact (far_spec hfar i (key_iff.2 hk)).1⟩
    farp := fun _ _ _ h => h, farw := fun _ _ _ h => h
    inj := hcore.inj
    dpt := fun i b hb => by rw [hget_app_out (hkout i (hkpt i (hcore.dpt i b hb)))]; exact hcore.dpt i b hb
    dow := fun i b hb => by rw [hget_app_out (hkout i (hkow i (hcore.dow i b hb)))]; exact hcore.dow i b hb
    blk := fun i => by
      by_cases hi : i ∈ codeAlloc T code
      · rw [hget_app_in hi]; trivial
      · rw [hget_app_out hi]; exact hcore.blk i }
  have hfree : ∀ i, i ∈ idsL A ++ hids H → (hget (appH (freesOf (codeAlloc T code)) H) i).isFree = false := fun i hi => by
    rw [hget_app_out fun hj => hd1 i hj hi]; exact noFree_hget hnf
  have hrel : Rel c0 ⟨A ++ anys (fn.ntmps - A.length), appH (freesOf (codeAlloc T code)) H⟩ { tmps := vs.toArray ++ Array.replicate (fn.ntmps - vs.toArray.size) undef, defers := [] } w := by
    refine ⟨M, pt, ow, S, hg0, fun pt' ow' hag => ?_, .nil⟩
    have hle : ∀ is : List Nat, (∀ i ∈ is, i ∈ idsL A ++ hids H) → Env.le ⟨view w M, pt, ow⟩ ⟨view w M, pt', ow'⟩ is := fun is his => ⟨fun _ _ h => h, fun i hi => by
      have := hag i (hfree i (his i hi))
      exact ⟨fun b hb => by change pt' i = some b at hb; rw [this.1] at hb; exact hb, fun b hb => by change ow' i = some b at hb; rw [this.2] at hb; exact hb⟩⟩
    refine ⟨?_, fun i l b cs Ty hl hb hcs => ?_⟩
    · have h1 := hargs.imp A _ (hle _ fun i hi => by simp [hi])
      have h2 := anys_ok (ρ := ⟨view w M, pt', ow'⟩) (fn.ntmps - A.length)
      have := h1.append h2
      rw [hlen] at this ⊢
      simpa using this
    · have hl' := hback i _ hl (by simp)
      exact (hcont i l b cs Ty hl' hb hcs).imp _ _ (hle _ fun j hj => by simp only [List.mem_append]; exact .inr (hids_of_get hl' j hj))
  -- the end
  have hfin : ∀ (σ : St) (a : Act) (w' : World), Rel c0 σ a w' → finK T fn.results.toList ex r H' σ → LeavesInM Fence.wide 0 P fn a.tmps (Ans w M pt ow S r H') a.defers .returning w' := by
    intro σ a w' hr hK
    obtain ⟨_, _, _, _, _, _, Ds, hDs, _⟩ := id hr
    obtain ⟨tm, ds⟩ := a
    simp only at hDs; subst hDs
    refine leaves_marks tm (fun w' hr => ?_) Ds w' hr
    unfold finK at hK
    obtain ⟨l1, hK, _⟩ := resK_spec hT hr _ _ hK
    obtain ⟨σ', hr', hK⟩ := freezeK_sound hr hK
    obtain ⟨l, ⟨hleA, hleH⟩, vs', hrun, hrs⟩ := resK_spec hT hr' _ _ hK
    obtain ⟨M1, pt1, ow1, S1, hg, hs, _⟩ := hr'
    obtain ⟨v, hv, hRv⟩ := results_run hrun (hrs M1 pt1 ow1 S1 hg hs)
    refine ⟨v, hv, ?_⟩
    obtain ⟨ptN, owN, hgN, hless, hcel⟩ := hg.weaken (leH_pick hleH)
    -- names
    have hexI : ∀ i, i ∈ keys H' → (i < 2000000 ∧ 1000000 ≤ i ∧ exI ex i = i) ∨ (2000000 ≤ i ∧ ∃ h : i - 2000000 < ex.length, exI ex i = ex[i - 2000000]) := fun i hi => by
      obtain ⟨h1, h2⟩ := far_spec hfar' i hi
      rcases Nat.lt_or_ge i 2000000 with h3 | h3
      · exact .inl ⟨h3, h1, exI_lo h3⟩
      · exact .inr ⟨h3, by omega, exI_hi h3 h2⟩
    have hexin : ∀ i, i ∈ keys H' → 2000000 ≤ i → exI ex i ∈ ex ∧ exI ex i ≤ 999998 := fun i hi h2 => by
      rcases hexI i hi with h | ⟨_, h3, h4⟩
      · omega
      · rw [h4]; exact ⟨List.getElem_mem _, hexlo _ (List.getElem_mem _)⟩
    have hinj : ∀ i, i ∈ keys H' → ∀ j ∈ keys H', exI ex j = exI ex i → j = i := fun i hi j hj e => by
      rcases hexI i hi with ⟨h1, h2, h3⟩ | ⟨h1, h2, h3⟩ <;> rcases hexI j hj with ⟨h4, h5, h6⟩ | ⟨h4, h5, h6⟩
      · rw [h3, h6] at e; exact e
      · have := (hexin j hj h4).2; rw [h3] at e; omega
      · have := (hexin i hi h1).2; rw [h6] at e; omega
      · rw [h3, h6] at e
        have := (List.getElem_inj hexnd).1 e
        omega
    have hgetm : ∀ i, i ∈ keys H' → hget (mapH (exI ex) H') (exI ex i) = (hget H' i).mapI (exI ex) := fun i hi => hget_mapH _ hi (hinj i hi)
    have hkeyH' : ∀ i, hget H' i ≠ .dead → i ∈ keys H' := fun i hi => key_iff.2 (key_of_get hi)
    have hfarp : ∀ i b, 1000000 ≤ i → ptN i = some b → pt i = some b := hgN.farp
    have hfarw : ∀ i b, 1000000 ≤ i → owN i = some b → ow i = some b := hgN.farw
    have hblf : ∀ i b, 1000000 ≤ i → bl ptN owN i = some b → bl pt ow i = some b := fun i b hi hb => by
      unfold bl at hb ⊢
      cases hq : ptN i with
      | some z => rw [hq] at hb; rw [hfarp i z hi hq]; exact hb
      | none =>
        rw [hq] at hb
        cases hq2 : owN i with
        | none => rw [hq2] at hb; cases hb
        | some z =>
          rw [hq2] at hb
          have h1 := hfarw i z hi hq2
          rw [hcore.ptow h1, h1]; exact hb
    have hbln : ∀ i b, i ≤ 999998 → bl ptN owN i = some b → w.heap.size ≤ b := fun i b hi hb => by
      rcases hgN.loc i b hb with h1 | h1
      · exact h1
      · have := h1.2; omega
    let ptF : Nat → Option Nat := fun i => if i ∈ keys H' then ptN (exI ex i) else none
    let owF : Nat → Option Value := fun i => if i ∈ keys H' then owN (exI ex i) else none
    let MF : Nat → Prop := fun b => M b ∨ S1 b ∨ ∃ i, i ∈ ex ∧ bl ptN owN i = some b
    have hF : ∀ i, i ∈ keys H' → ptF i = ptN (exI ex i) ∧ owF i = owN (exI ex i) := fun i hi => by simp only [ptF, owF, if_pos hi]; exact ⟨trivial, trivial⟩
    have hFp : ∀ i b, ptF i = some b → i ∈ keys H' ∧ ptN (exI ex i) = some b := fun i b hb => by
      by_cases hi : i ∈ keys H'
      · exact ⟨hi, by rw [(hF i hi).1] at hb; exact hb⟩
      · simp only [ptF, if_neg hi] at hb; cases hb
    have hFw : ∀ i b, owF i = some b → i ∈ keys H' ∧ owN (exI ex i) = some b := fun i b hb => by
      by_cases hi : i ∈ keys H'
      · exact ⟨hi, by rw [(hF i hi).2] at hb; exact hb⟩
      · simp only [owF, if_neg hi] at hb; cases hb
    have hFb : ∀ i b, bl ptF owF i = some b → i ∈ keys H' ∧ bl ptN owN (exI ex i) = some b := fun i b hb => by
      by_cases hi : i ∈ keys H'
      · exact ⟨hi, by simpa only [bl, (hF i hi).1, (hF i hi).2] using hb⟩
      · simp only [bl, ptF, owF, if_neg hi] at hb; cases hb
    have hMF1 : ∀ b, MF b → M1 b := fun b hb => by
      rcases hb with h1 | h1 | ⟨i, _, h1⟩
      · exact hgN.m0 b h1
      · exact hgN.gm b h1
      · exact hgN.mt i b h1
    have hV : ∀ b o, view w' M1 b o → view w' MF b o := view_mono fun b o hm hb => ⟨fun h' => hm (hMF1 b h'), hb⟩
    have hR1 : ∀ (x : AV) (y : Value), R ⟨view w' M1, ptN, owN⟩ (x.mapI (exI ex)) y → R ⟨view w' MF, ptF, owF⟩ x y := fun x y hx => by
      have h1 := (R.mapI (V := view w' M1) (f := exI ex) (pt := fun i => ptN (exI ex i)) (ow := fun i => owN (exI ex i)) (pt' := ptN) (ow' := owN) x y fun i _ => ⟨rfl, rfl⟩).1 hx
      exact h1.imp x y ⟨hV, fun i _ => ⟨fun b hb => (hFp i b hb).2, fun b hb => (hFw i b hb).2⟩⟩
    have hR2 : ∀ (x : List AV) (y : List Value), Rs ⟨view w' M1, ptN, owN⟩ (mapIL (exI ex) x) y → Rs ⟨view w' MF, ptF, owF⟩ x y := fun x y hx => by
      have h1 := (Rs.mapI (V := view w' M1) (f := exI ex) (pt := fun i => ptN (exI ex i)) (ow := fun i => owN (exI ex i)) (pt' := ptN) (ow' := owN) x y fun i _ => ⟨rfl, rfl⟩).1 hx
      exact h1.imp x y ⟨hV, fun i _ => ⟨fun b hb => (hFp i b hb).2, fun b hb => (hFw i b hb).2⟩⟩
    refine ⟨v, MF, ptF, owF, S1, rfl, ?_, ?_, hR1 r v (R.le _ _ _ hleA (hless _) hRv), ?_⟩
    · exact {
        fresh := fun b hb => hgN.fresh b (hMF1 b hb)
        mt := fun i b hb => by
          obtain ⟨hi, hb'⟩ := hFb i b hb
          rcases hexI i hi with ⟨h1, h2, h3⟩ | ⟨h1, _, _⟩
          · rw [h3] at hb'; exact .inl (hcore.mt i b (hblf i b h2 hb'))
          · exact .inr (.inr ⟨_, (hexin i hi h1).1, hb'⟩)
        inj := fun i j b hi hj => by
          obtain ⟨h1, h2⟩ := hFb i b hi
          obtain ⟨h3, h4⟩ := hFb j b hj
          exact (hinj i h1 j h3 (hgN.inj _ _ b h4 h2)).symm
        gm := fun b hb => .inr (.inl hb)
        gd := fun i b hb => hgN.gd _ b (hFb i b hb).2
        dpt := fun i b hb => by
          obtain ⟨hi, hb'⟩ := hFp i b hb
          have := hgN.dpt _ b hb'
          rw [hgetm i hi, mapI_isPt] at this; exact this
        dow := fun i b hb => by
          obtain ⟨hi, hb'⟩ := hFw i b hb
          have := hgN.dow _ b hb'
          rw [hgetm i hi, mapI_isBuf] at this; exact this
        blk := fun i => by
          by_cases hi : i ∈ keys H'
          · have h1 := hgN.blk (exI ex i)
            rw [hgetm i hi] at h1
            have h2 := h1.unren (pt' := ptF) (ow' := owF) (i := i) (exI ex) (hF i hi).1 (hF i hi).2 fun e => by
              rcases hexI i hi with ⟨h3, h4, h5⟩ | ⟨h3, _, _⟩
              · rw [h5] at e; exact e
              · have := (hexin i hi h3).2; rw [e] at this; simp only [CBID] at this; omega
            refine h2.mono rfl rfl hV (fun x hx => ?_) (fun _ _ _ h => h) (fun _ _ _ h => h)
            obtain ⟨_, hx'⟩ := hFw i x hx
            rw [(hF i hi).1]; exact hgN.ptow hx'
          · have : hget H' i = .dead := by
              cases e : hget H' i <;> first | rfl | exact absurd (hkeyH' i (by rw [e]; simp)) hi
            rw [this]; trivial }
    · intro i m b cs Ty hm hb' hcs
      obtain ⟨hi, hb''⟩ := hFp i b hb'
      have h1 := hgetm i hi
      rw [hm] at h1
      simp only [Blk.mapI] at h1
      obtain ⟨l0, h2, h3, h4⟩ := hcel _ _ h1
      rw [h4] at hb''
      exact hR2 m _ (Rs.le _ _ _ h3 (hless _) ((hs pt1 ow1 (Agr.refl _ _ _)).2 _ l0 b cs Ty h2 hb'' hcs))
    · exact {
        os := hgN.os, tape := hgN.tape, output := hgN.output, size := hgN.size
        same := fun b hb hn hS => hgN.keep b hb fun h => h.elim (fun ⟨i, hi⟩ => hn i hi) hS
        mm := fun b hb => .inl hb
        mn := fun b hb => by
          rcases hb with h1 | h1 | ⟨i, hi, h1⟩
          · exact .inl h1
          · rcases hgN.gl b h1 with h2 | h2
            · exact .inr h2
            · exact .inl (hcore.gm b h2.2)
          · exact .inr (hbln i b (hexlo i hi) h1)
        sn := fun b hb => by
          rcases hgN.gl b hb with h2 | h2
          · exact .inr h2
          · exact .inl h2.2
        lept := fun i b hb => by
          obtain ⟨hi, hb'⟩ := hFp i b hb
          rcases hexI i hi with ⟨h1, h2, h3⟩ | ⟨h1, _, _⟩
          · rw [h3] at hb'; exact .inl (hfarp i b h2 hb')
          · exact .inr ⟨hbln _ b (hexin i hi h1).2 (by simp [bl, hb']), h1⟩
        leow := fun i x hx => by
          obtain ⟨hi, hx'⟩ := hFw i x hx
          rcases hexI i hi with ⟨h1, h2, h3⟩ | ⟨h1, _, _⟩
          · rw [h3] at hx'; exact .inl (hfarw i x h2 hx')
          · refine .inr ⟨fun b hb => hbln _ b (hexin i hi h1).2 ?_, h1⟩
            unfold bl
            rw [hgN.ptow hx', hx']
            cases x <;> first | exact hb | (simp [vbl] at hb; done) | (rename_i ao _ _; cases ao <;> first | exact hb | (simp [vbl] at hb; done)) }
  refine callsIn_wide.1 (callsIn_of_wp_marks (n := 0) hf hb trivial (hk.sem c0 _ _ _ hrel fun e σ a w' hr hK => ?_))
  cases e with
  | normal => exact hfin σ a w' hr hK
  | ret => exact hfin σ a w' hr hK
  | _ => exact hK.elim
end
end Go.Sx
