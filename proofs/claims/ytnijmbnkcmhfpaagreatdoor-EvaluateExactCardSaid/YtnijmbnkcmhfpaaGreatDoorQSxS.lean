/-
  A function's contract from the execution of its body.
-/
import Derived.Test.YtnijmbnkcmhfpaaGreatDoorQSxV
set_option linter.unusedVariables false
set_option linter.unusedSimpArgs false
namespace Go.Sx
open Go

section
variable {P : Program} {T : Tab} {c : Ctx} {σ : St} {a : Act} {w : World}

def resV (tmps : Array Value) : ResultVar → Sem Value
  | .tmp t => pure (tmps.getD t undef)
  | .cell a t => do loadVar t (← asAddr (tmps.getD a undef))

theorem resK_spec (hT : TabOK P T) (h : Rel c σ a w) : ∀ (res : List ResultVar) (K : List AV → Prop), resK T res σ K →
    ∃ l, K l ∧ ∃ vs, (res.mapM (resV a.tmps)).run P w = .ok vs w ∧ ∀ M pt ow S, Good c M pt ow S σ.hp w → Sees σ a w M pt ow → Rs ⟨view w M, pt, ow⟩ l vs
  | [], K, hk => ⟨[], hk, [], by simp, fun _ _ _ _ _ _ => by simp [Rs]⟩
  | .tmp t :: r, K, hk => by
    simp only [resK] at hk
    rw [frc_iff] at hk
    obtain ⟨l, hK, vs, hrun, hrs⟩ := resK_spec hT h r _ hk
    refine ⟨_, hK, a.tmps.getD t undef :: vs, ?_, fun M pt ow S hg hs => ?_⟩
    · rw [List.mapM_cons]
      simp [resV, hrun]
    · simp only [Rs]
      exact ⟨eval_ok (hs pt ow (Agr.refl _ _ _)).1 (.tmp t), hrs M pt ow S hg hs⟩
  | .cell d t :: r, K, hk => by
    simp only [resK] at hk
    split at hk
    · rename_i i off hp
      split at hk
      · rename_i l hl
        obtain ⟨ti, hmem, hk⟩ := tgK_iff _ _ _ hk
        have hti := hT.ti _ _ hmem
        obtain ⟨u, hk, hlen, hrr⟩ := ldK_spec hti hk
        obtain ⟨l', hK, vs, hrun, hrs⟩ := resK_spec hT h r _ hk
        obtain ⟨M, pt, ow, S, hg, hs, hr⟩ := h.own
        have hx := eval_ok hr (.tmp d)
        have hp' : evalA σ.sl (.tmp d) = .ptr i off := hp
        rw [hp'] at hx
        simp only [R] at hx
        obtain ⟨b, cs, Ty, hb, hcs⟩ := hg.cel i l hl
        have hxe := hx.2 b hb
        have hrs1 := (hs pt ow (Agr.refl _ _ _)).2 i l b cs Ty hl hb hcs
        have hcell : ∀ j v, ((cs.toList.drop off).take ti.sz)[j]? = some v → w.cell? ⟨b, off + j, none⟩ = some v := fun j v hv => by
          rw [List.getElem?_take] at hv
          split at hv
          · simp only [World.cell?, hcs]; simpa [List.getElem?_drop] using hv
          · simp at hv
        have hlv : ((cs.toList.drop off).take ti.sz).length = ti.sz := ((hrs1.drop off).take ti.sz).length.symm.trans hlen
        have hload := rLoad hti (w := w) _ hlv hcell
        refine ⟨_, hK, (if ti.agg then .agg ((cs.toList.drop off).take ti.sz).toArray else ((cs.toList.drop off).take ti.sz).headD undef) :: vs, ?_, fun M' pt' ow' S' hg' hs' => ?_⟩
        · rw [List.mapM_cons]
          have hxe' : a.tmps.getD d undef = .pointer (some ⟨b, off, none⟩) := hxe
          simp [resV, hxe', asAddr, hload, hrun]
        · simp only [Rs]
          refine ⟨?_, hrs M' pt' ow' S' hg' hs'⟩
          obtain ⟨b', cs', Ty', hb', hcs'⟩ := hg'.cel i l hl
          have hx' := eval_ok (hs' pt' ow' (Agr.refl _ _ _)).1 (.tmp d)
          rw [hp'] at hx'
          simp only [R] at hx'
          have := hx'.2 b' hb'
          rw [hxe] at this
          simp at this; subst this
          rw [hcs] at hcs'; simp at hcs'; obtain ⟨rfl, rfl⟩ := hcs'
          exact hrr _ _ (((hs' pt' ow' (Agr.refl _ _ _)).2 i l b cs Ty hl hb' hcs).drop off |>.take ti.sz)
      · exact hk.elim
    · exact hk.elim

theorem results_run {fn : Func} {tmps : Array Value} {vs : List Value} (h : (fn.results.toList.mapM (resV tmps)).run P w = .ok vs w) {ρ : Env} {l : List AV} (hr : Rs ρ l vs) :
    ∃ v, (results fn tmps).run P w = .ok v w ∧ R ρ (oneTup l) v := by
  have e : results fn tmps = (fn.results.toList.mapM (resV tmps) >>= fun vs => pure (if h : vs.toArray.size = 1 then vs.toArray[0] else .tuple vs.toArray)) := by
    unfold results
    rw [Array.mapM_eq_mapM_toList]
    rw [map_eq_pure_bind, bind_assoc]
    simp only [pure_bind]
    have hfun : (fun x : ResultVar => match x with
      | .tmp t => (pure (tmps.getD t undef) : Sem Value)
      | .cell a t => do loadVar t (← asAddr (tmps.getD a undef))) = resV tmps := by funext x; cases x <;> rfl
    rw [← hfun]; rfl
  rw [e]
  refine ⟨_, by simp only [Sem.run_bind, h, Result.andThen_ok, Sem.run_pure]; rfl, ?_⟩
  match l, vs, hr with
  | [], [], _ => simp [oneTup, R, Rs]
  | [x], [v], hr => simp only [Rs] at hr; simpa [oneTup] using hr.1
  | x :: y :: l, v :: u :: vs, hr =>
    have : ¬ ((v :: u :: vs).toArray.size = 1) := by simp
    rw [dif_neg this]
    simp only [oneTup, R]
    exact ⟨_, rfl, hr⟩
  | [], _ :: _, hr => simp [Rs] at hr
  | _ :: _, [], hr => simp [Rs] at hr
  | [_], _ :: _ :: _, hr => simp [Rs] at hr
  | _ :: _ :: _, [_], hr => simp [Rs] at hr


/-- The mark's block is shut at the function's return. -/
theorem Rel.unmark (h : Rel c σ a w) {D : Nat} {Ds : List Nat} (hd : a.defers = (D :: Ds).map markOf) : w.heap[D]? = some (.deferred (some [])) ∧ Rel c σ { a with defers := Ds.map markOf } (w.putObj D (.deferred none)) := by
  obtain ⟨M, pt, ow, S, hg, hs, Ds', h1, h2, h3⟩ := h
  have e : Ds' = D :: Ds := by
    have hinj : ∀ l m : List Nat, l.map markOf = m.map markOf → l = m := by
      intro l
      induction l with
      | nil => intro m h; cases m with
        | nil => rfl
        | cons _ _ => simp at h
      | cons x l ih => intro m h; cases m with
        | nil => simp at h
        | cons y m =>
          simp only [List.map_cons, List.cons.injEq] at h
          rw [ih m h.2]
          have := h.1
          simp [markOf] at this
          rw [this]
    exact hinj _ _ (h1.symm.trans hd)
  subst e
  obtain ⟨hD0, hDM, hD⟩ := h3 D (by simp)
  rw [List.nodup_cons] at h2
  have hne : ∀ b, b ≠ D → (w.putObj D (.deferred none)).heap[b]? = w.heap[b]? := fun b hb => World.putObj_heap_other hb
  have hV : CLe (view w M) (view (w.putObj D (.deferred none)) M) := fun b cs T fr hv => ⟨hv.1, by
    rw [hne b fun e => by rw [e] at hv; have := hv.2; rw [hD] at this; cases this]; exact hv.2⟩
  have hMD : ∀ b, M b → b ≠ D := fun b hb e => hDM (e ▸ hb)
  refine ⟨hD, M, pt, ow, S, ?_, ?_, Ds, rfl, h2.2, fun D' hD' => ⟨(h3 D' (by simp [hD'])).1, (h3 D' (by simp [hD'])).2.1, by
    rw [hne D' fun e => h2.1 (e ▸ hD')]; exact (h3 D' (by simp [hD'])).2.2⟩⟩
  · exact {
      os := hg.os, tape := hg.tape, output := hg.output
      size := by simpa [World.putObj] using hg.size
      keep := fun b hb hm => by rw [hne b (by omega)]; exact hg.keep b hb hm
      fresh := fun b hb => by simpa [World.putObj] using hg.fresh b hb
      m0 := hg.m0, m1 := hg.m1, mt := hg.mt, gm := hg.gm, gd := hg.gd, inj := hg.inj, dpt := hg.dpt, dow := hg.dow, loc := hg.loc, gl := hg.gl, farp := hg.farp, farw := hg.farw
      blk := fun i => (hg.blk i).cmono rfl rfl hV (fun _ => hg.ptow) (fun b o hb hh => by rw [hne b (hMD b (hg.mt i b hb))]; exact hh) (fun b o hb hh => by rw [hne b (hMD b (hg.gm b hb))]; exact hh) }
  · intro pt' ow' hag
    obtain ⟨h4, h5⟩ := hs pt' ow' hag
    refine ⟨Rs.cmono hV _ _ h4, fun i l b cs Ty hl hb hcs => ?_⟩
    rw [hne b (hMD b (hg.mt i b (by simp [bl, hb])))] at hcs
    exact Rs.cmono hV _ _ (h5 i l b cs Ty hl hb hcs)
theorem leaves_marks {fn : Func} {R : Ending → World → Prop} (tm : Array Value) (hR : ∀ w', Rel c σ { tmps := tm, defers := [] } w' → ∃ v, (results fn tm).run P w' = .ok v w' ∧ R (.returned v) w') :
    ∀ (Ds : List Nat) (w : World), Rel c σ { tmps := tm, defers := Ds.map markOf } w → LeavesInM Fence.wide 0 P fn tm R (Ds.map markOf) .returning w
  | [], w, h => hR w h
  | D :: Ds, w, h => by
    obtain ⟨h1, h2⟩ := h.unmark (D := D) (Ds := Ds) rfl
    exact ⟨by simp, .inl ⟨D, _, rfl, run_takeDeferred h1, leaves_marks tm hR Ds _ h2⟩⟩

theorem far_spec : ∀ {n : Nat} {l : List Nat}, far n l = true → ∀ i ∈ l, 1000000 ≤ i ∧ i < 2000000 + n ∧ (i < 1500000 ∨ 1999999 ≤ i)
  | _, [], _, i, hi => by simp at hi
  | n, j :: l, h, i, hi => by
    simp only [far] at h
    split at h
    · rename_i e1 e2 e3
      rcases List.mem_cons.1 hi with rfl | hi
      · refine ⟨Nat.le_of_ble_eq_true e1, Nat.le_of_ble_eq_true e2, ?_⟩
        rcases Bool.or_eq_true _ _ ▸ e3 with h1 | h1
        · exact .inl (Nat.le_of_ble_eq_true h1)
        · exact .inr (Nat.le_of_ble_eq_true h1)
      · exact far_spec h i hi
    · cases h
theorem keys_eq : ∀ (h : Hp), keys h = h.map (·.1)
  | [] => rfl
  | (i, b) :: r => by simp [keys, keys_eq r]
theorem blks_eq : ∀ (h : Hp), blks h = h.map (·.2)
  | [] => rfl
  | (i, b) :: r => by simp [blks, blks_eq r]
theorem key_iff {h : Hp} {i : Nat} : i ∈ keys h ↔ HKey h i := by rw [keys_eq]; exact Iff.rfl
theorem noFree_hget : ∀ {H : Hp} {i : Nat}, noFree (H.map (·.2)) = true → (hget H i).isFree = false
  | [], _, _ => rfl
  | (j, b) :: H, i, h => by
    rw [hget_cons]
    split
    · cases b <;> simp [noFree] at h <;> rfl
    · exact noFree_hget (by cases b <;> simp [noFree] at h <;> simpa using h)
theorem anys_ok {ρ : Env} : ∀ n : Nat, Rs ρ (anys n) (List.replicate n undef)
  | 0 => by simp [anys, Rs]
  | n + 1 => by simp only [anys, List.replicate_succ, Rs]; exact ⟨by simp [R], anys_ok n⟩
theorem hget_mapH (f : Nat → Nat) : ∀ {H : Hp} {i : Nat}, i ∈ keys H → (∀ j ∈ keys H, f j = f i → j = i) → hget (mapH f H) (f i) = (hget H i).mapI f
  | [], _, h, _ => by simp [keys] at h
  | (j, b) :: r, i, h, hf => by
    simp only [mapH]
    rw [hget_cons, hget_cons]
    by_cases e : j = i
    · rw [if_pos e, if_pos (by rw [e])]
    · rw [if_neg e, if_neg fun e' => e (hf j (by simp [keys]) e')]
      simp only [keys, List.mem_cons] at h
      exact hget_mapH f (h.resolve_left fun h' => e h'.symm) fun k hk => hf k (by simp [keys, hk])
theorem BlkOk.unren {w : World} {V : View} {pt pt' : Nat → Option Nat} {ow ow' : Nat → Option Value} {S : Nat → Prop} {i j : Nat} {x : Blk} (f : Nat → Nat) (hpt : pt' i = pt j) (how : ow' i = ow j) (hS : j = CBID → i = CBID) (h : BlkOk w V pt ow S j (x.mapI f)) : BlkOk w V pt' ow' S i x := by
  cases x with
  | free => trivial
  | dead => trivial
  | cells l => simpa only [Blk.mapI, BlkOk, hpt] using h
  | buf e k xs => simpa only [Blk.mapI, BlkOk, how] using h
  | map a b m => simpa only [Blk.mapI, BlkOk, hpt] using h
  | gst J =>
    obtain ⟨h1, h2, h3⟩ := h
    exact ⟨hS h1, h2, h3⟩
theorem exI_lo {ex : List Nat} {i : Nat} (h : i < 2000000) : exI ex i = i := by
  unfold exI
  have : Nat.ble 2000000 i = false := by
    cases e : Nat.ble 2000000 i with
    | false => rfl
    | true => have := Nat.le_of_ble_eq_true e; omega
  rw [this]
theorem exI_hi {ex : List Nat} {i : Nat} (h : 2000000 ≤ i) (h2 : i < 2000000 + ex.length) : exI ex i = ex[i - 2000000]'(by omega) := by
  unfold exI
  have : Nat.ble 2000000 i = true := Nat.ble_eq_true_of_le h
  rw [this]
  simp only []
  rw [List.getD_eq_getElem?_getD, List.getElem?_eq_getElem (by omega)]
  rfl

open Classical in
set_option maxHeartbeats 1000000 in
/-- A FUNCTION. -/
theorem fnK_sound (hT : TabOK P T) (hmx : P.follows .mixedOrders = true) {f : Nat} {fn : Func} {code : Code} (hf : P.funcs[f]? = some fn) (hb : fn.body = some code) (hname : (fn.name == "runtime.NumGoroutine") = false)
    {ex : List Nat} {H H' : Hp} {A : List AV} {r : AV} (h : fnK T (CN P) ex code fn.results.toList fn.ntmps H A r H') : FnOK P f H A r H' := by
  unfold fnK at h
  rw [frcL_iff, frcH_iff] at h
  split at h
  case h_2 => exact h.elim
  rename_i hd1 hd2 hfar hfar' hnf hnod hex
  have hk := h
  rw [disB_iff] at hd1 hd2
  rw [Bool.and_eq_true] at hex
  have hexlo := lowB_iff hex.1
  have hexnd := nodupB_iff hex.2
  have hnod := nodupB_iff hnod
  rw [blks_eq] at hnf
  refine ⟨⟨fn, hf, by rw [hb]; rfl, hname⟩, fun w M pt ow S vs hcore hcont hargs => ?_⟩
  let c0 : Ctx := { M0 := M, w0 := w, mine := fun b => (∃ i, bl pt ow i = some b) ∨ S b, sm := S, pt0 := pt, ow0 := ow }
  have hkout : ∀ i, HKey H i → i ∉ codeAlloc T code := fun i hi hj => hd2 i hj (key_iff.2 hi)
  have hout : ∀ i x, hget H i = x → x ≠ .dead → hget (appH (freesOf (codeAlloc T code)) H) i = x := fun i x hx hn => by
    rw [hget_app_out (hkout i (key_of_get (by rw [hx]; exact hn)))]; exact hx
  have hback : ∀ i x, hget (appH (freesOf (codeAlloc T code)) H) i = x → x ≠ .free → hget H i = x := fun i x hx hn => by
    by_cases hi : i ∈ codeAlloc T code
    · rw [hget_app_in hi] at hx; exact absurd hx.symm hn
    · rw [hget_app_out hi] at hx; exact hx
  have hlen := hargs.length
  have hkpt : ∀ i, (hget H i).isPt = true → HKey H i := fun i hi => key_of_get fun e => by rw [e] at hi; cases hi
  have hkow : ∀ i, (hget H i).isBuf = true → HKey H i := fun i hi => key_of_get fun e => by rw [e] at hi; cases hi
  have hg0 : Good c0 M pt ow S (appH (freesOf (codeAlloc T code)) H) w := {
    os := rfl, tape := rfl, output := rfl, size := Nat.le_refl _, keep := fun _ _ _ => rfl, fresh := hcore.fresh, m0 := fun _ h => h, m1 := hcore.fresh, mt := hcore.mt
    gm := hcore.gm, gd := hcore.gd, gl := fun b hb => .inr ⟨.inr hb, hb⟩
    loc := fun i b hb => .inr ⟨.inl ⟨i, hb⟩, by
      have hk : HKey H i := by
        unfold bl at hb
        cases hq : pt i with
        | some z => exact hkpt i (hcore.dpt i z hq)
        | none =>
          rw [hq] at hb
          cases hq2 : ow i with
          | none => rw [hq2] at hb; cases hb
          | some z => exact hkow i (hcore.dow i z hq2)
      exact (far_spec hfar i (key_iff.2 hk)).1⟩
    farp := fun _ _ _ h => h, farw := fun _ _ _ h => .inl h
    inj := hcore.inj
    dpt := fun i b hb => by rw [hget_app_out (hkout i (hkpt i (hcore.dpt i b hb)))]; exact hcore.dpt i b hb
    dow := fun i b hb => by rw [hget_app_out (hkout i (hkow i (hcore.dow i b hb)))]; exact hcore.dow i b hb
    blk := fun i => by
      by_cases hi : i ∈ codeAlloc T code
      · rw [hget_app_in hi]; trivial
      · rw [hget_app_out hi]; exact hcore.blk i }
  have hfree : ∀ i, i ∈ idsL A ++ hids H → (hget (appH (freesOf (codeAlloc T code)) H) i).isFree = false := fun i hi => by
    rw [hget_app_out fun hj => hd1 i hj hi]; exact noFree_hget hnf
  have hrel : Rel c0 ⟨A ++ anys (fn.ntmps - A.length), appH (freesOf (codeAlloc T code)) H⟩ { tmps := vs.toArray ++ Array.replicate (fn.ntmps - vs.toArray.size) undef, defers := [] } w := by
    refine ⟨M, pt, ow, S, hg0, fun pt' ow' hag => ?_, .nil⟩
    have hle : ∀ is : List Nat, (∀ i ∈ is, i ∈ idsL A ++ hids H) → Env.le ⟨view w M, pt, ow⟩ ⟨view w M, pt', ow'⟩ is := fun is his => ⟨fun _ _ h => h, fun i hi => by
      have := hag i (hfree i (his i hi))
      exact ⟨fun b hb => by change pt' i = some b at hb; rw [this.1] at hb; exact hb, fun b hb => by change ow' i = some b at hb; rw [this.2] at hb; exact hb⟩⟩
    refine ⟨?_, fun i l b cs Ty hl hb hcs => ?_⟩
    · have h1 := hargs.imp A _ (hle _ fun i hi => by simp [hi])
      have h2 := anys_ok (ρ := ⟨view w M, pt', ow'⟩) (fn.ntmps - A.length)
      have := h1.append h2
      rw [hlen] at this ⊢
      simpa using this
    · have hl' := hback i _ hl (by simp)
      exact (hcont i l b cs Ty hl' hb hcs).imp _ _ (hle _ fun j hj => by simp only [List.mem_append]; exact .inr (hids_of_get hl' j hj))
  -- the end
  have hfin : ∀ (σ : St) (a : Act) (w' : World), Rel c0 σ a w' → finK T fn.results.toList ex r H' σ → LeavesInM Fence.wide 0 P fn a.tmps (Ans w M pt ow S r H') a.defers .returning w' := by
    intro σ a w' hr hK
    obtain ⟨_, _, _, _, _, _, Ds, hDs, _⟩ := id hr
    obtain ⟨tm, ds⟩ := a
    simp only at hDs; subst hDs
    refine leaves_marks tm (fun w' hr => ?_) Ds w' hr
    unfold finK at hK
    obtain ⟨l1, hK, _⟩ := resK_spec hT hr _ _ hK
    obtain ⟨σ', hr', hK⟩ := freezeK_sound hr hK
    obtain ⟨l, ⟨hleA, hleH⟩, vs', hrun, hrs⟩ := resK_spec hT hr' _ _ hK
    obtain ⟨M1, pt1, ow1, S1, hg, hs, _⟩ := hr'
    obtain ⟨v, hv, hRv⟩ := results_run hrun (hrs M1 pt1 ow1 S1 hg hs)
    refine ⟨v, hv, ?_⟩
    obtain ⟨ptN, owN, hgN, hless, hcel⟩ := hg.weaken (leH_pick hleH)
    -- names
    have hexI : ∀ i, i ∈ keys H' → (i < 2000000 ∧ (1000000 ≤ i ∧ (i < 1500000 ∨ 1999999 ≤ i)) ∧ exI ex i = i) ∨ (2000000 ≤ i ∧ ∃ h : i - 2000000 < ex.length, exI ex i = ex[i - 2000000]) := fun i hi => by
      obtain ⟨h1, h2, h2'⟩ := far_spec hfar' i hi
      rcases Nat.lt_or_ge i 2000000 with h3 | h3
      · exact .inl ⟨h3, ⟨h1, h2'⟩, exI_lo h3⟩
      · exact .inr ⟨h3, by omega, exI_hi h3 h2⟩
    have hexin : ∀ i, i ∈ keys H' → 2000000 ≤ i → exI ex i ∈ ex ∧ exI ex i ≤ 999998 := fun i hi h2 => by
      rcases hexI i hi with h | ⟨_, h3, h4⟩
      · omega
      · rw [h4]; exact ⟨List.getElem_mem _, hexlo _ (List.getElem_mem _)⟩
    have hinj : ∀ i, i ∈ keys H' → ∀ j ∈ keys H', exI ex j = exI ex i → j = i := fun i hi j hj e => by
      rcases hexI i hi with ⟨h1, h2, h3⟩ | ⟨h1, h2, h3⟩ <;> rcases hexI j hj with ⟨h4, h5, h6⟩ | ⟨h4, h5, h6⟩
      · rw [h3, h6] at e; exact e
      · have := (hexin j hj h4).2; rw [h3] at e; omega
      · have := (hexin i hi h1).2; rw [h6] at e; omega
      · rw [h3, h6] at e
        have := (List.getElem_inj hexnd).1 e
        omega
    have hgetm : ∀ i, i ∈ keys H' → hget (mapH (exI ex) H') (exI ex i) = (hget H' i).mapI (exI ex) := fun i hi => hget_mapH _ hi (hinj i hi)
    have hkeyH' : ∀ i, hget H' i ≠ .dead → i ∈ keys H' := fun i hi => key_iff.2 (key_of_get hi)
    have hfarp : ∀ i b, (1000000 ≤ i ∧ (i < 1500000 ∨ 1999999 ≤ i)) → ptN i = some b → pt i = some b := fun i b hi => hgN.farp i b hi.1
    have hfarw : ∀ i b, (1000000 ≤ i ∧ (i < 1500000 ∨ 1999999 ≤ i)) → owN i = some b → ow i = some b := fun i b hi hb => by
      rcases hgN.farw i b hi.1 hb with h1 | h1
      · exact h1
      · omega
    have hblf : ∀ i b, (1000000 ≤ i ∧ (i < 1500000 ∨ 1999999 ≤ i)) → bl ptN owN i = some b → bl pt ow i = some b := fun i b hi hb => by
      unfold bl at hb ⊢
      cases hq : ptN i with
      | some z => rw [hq] at hb; rw [hfarp i z hi hq]; exact hb
      | none =>
        rw [hq] at hb
        cases hq2 : owN i with
        | none => rw [hq2] at hb; cases hb
        | some z =>
          rw [hq2] at hb
          have h1 := hfarw i z hi hq2
          rw [hcore.ptow h1, h1]; exact hb
    have hbln : ∀ i b, i ≤ 999998 → bl ptN owN i = some b → w.heap.size ≤ b := fun i b hi hb => by
      rcases hgN.loc i b hb with h1 | h1
      · exact h1
      · have := h1.2; omega
    let ptF : Nat → Option Nat := fun i => if i ∈ keys H' then ptN (exI ex i) else none
    let owF : Nat → Option Value := fun i => if i ∈ keys H' then owN (exI ex i) else none
    let MF : Nat → Prop := fun b => M b ∨ S1 b ∨ ∃ i, i ∈ ex ∧ bl ptN owN i = some b
    have hF : ∀ i, i ∈ keys H' → ptF i = ptN (exI ex i) ∧ owF i = owN (exI ex i) := fun i hi => by simp only [ptF, owF, if_pos hi]; exact ⟨trivial, trivial⟩
    have hFp : ∀ i b, ptF i = some b → i ∈ keys H' ∧ ptN (exI ex i) = some b := fun i b hb => by
      by_cases hi : i ∈ keys H'
      · exact ⟨hi, by rw [(hF i hi).1] at hb; exact hb⟩
      · simp only [ptF, if_neg hi] at hb; cases hb
    have hFw : ∀ i b, owF i = some b → i ∈ keys H' ∧ owN (exI ex i) = some b := fun i b hb => by
      by_cases hi : i ∈ keys H'
      · exact ⟨hi, by rw [(hF i hi).2] at hb; exact hb⟩
      · simp only [owF, if_neg hi] at hb; cases hb
    have hFb : ∀ i b, bl ptF owF i = some b → i ∈ keys H' ∧ bl ptN owN (exI ex i) = some b := fun i b hb => by
      by_cases hi : i ∈ keys H'
      · exact ⟨hi, by simpa only [bl, (hF i hi).1, (hF i hi).2] using hb⟩
      · simp only [bl, ptF, owF, if_neg hi] at hb; cases hb
    have hMF1 : ∀ b, MF b → M1 b := fun b hb => by
      rcases hb with h1 | h1 | ⟨i, _, h1⟩
      · exact hgN.m0 b h1
      · exact hgN.gm b h1
      · exact hgN.mt i b h1
    have hV : ∀ b o, view w' M1 b o → view w' MF b o := view_mono fun b o hm hb => ⟨fun h' => hm (hMF1 b h'), hb⟩
    have hR1 : ∀ (x : AV) (y : Value), R ⟨view w' M1, ptN, owN⟩ (x.mapI (exI ex)) y → R ⟨view w' MF, ptF, owF⟩ x y := fun x y hx => by
      have h1 := (R.mapI (V := view w' M1) (f := exI ex) (pt := fun i => ptN (exI ex i)) (ow := fun i => owN (exI ex i)) (pt' := ptN) (ow' := owN) x y fun i _ => ⟨rfl, rfl⟩).1 hx
      exact h1.imp x y ⟨hV, fun i _ => ⟨fun b hb => (hFp i b hb).2, fun b hb => (hFw i b hb).2⟩⟩
    have hR2 : ∀ (x : List AV) (y : List Value), Rs ⟨view w' M1, ptN, owN⟩ (mapIL (exI ex) x) y → Rs ⟨view w' MF, ptF, owF⟩ x y := fun x y hx => by
      have h1 := (Rs.mapI (V := view w' M1) (f := exI ex) (pt := fun i => ptN (exI ex i)) (ow := fun i => owN (exI ex i)) (pt' := ptN) (ow' := owN) x y fun i _ => ⟨rfl, rfl⟩).1 hx
      exact h1.imp x y ⟨hV, fun i _ => ⟨fun b hb => (hFp i b hb).2, fun b hb => (hFw i b hb).2⟩⟩
    refine ⟨v, MF, ptF, owF, S1, rfl, ?_, ?_, hR1 r v (R.le _ _ _ hleA (hless _) hRv), ?_⟩
    · exact {
        fresh := fun b hb => hgN.fresh b (hMF1 b hb)
        mt := fun i b hb => by
          obtain ⟨hi, hb'⟩ := hFb i b hb
          rcases hexI i hi with ⟨h1, h2, h3⟩ | ⟨h1, _, _⟩
          · rw [h3] at hb'; exact .inl (hcore.mt i b (hblf i b h2 hb'))
          · exact .inr (.inr ⟨_, (hexin i hi h1).1, hb'⟩)
        inj := fun i j b hi hj => by
          obtain ⟨h1, h2⟩ := hFb i b hi
          obtain ⟨h3, h4⟩ := hFb j b hj
          exact (hinj i h1 j h3 (hgN.inj _ _ b h4 h2)).symm
        gm := fun b hb => .inr (.inl hb)
        gd := fun i b hb => hgN.gd _ b (hFb i b hb).2
        dpt := fun i b hb => by
          obtain ⟨hi, hb'⟩ := hFp i b hb
          have := hgN.dpt _ b hb'
          rw [hgetm i hi, mapI_isPt] at this; exact this
        dow := fun i b hb => by
          obtain ⟨hi, hb'⟩ := hFw i b hb
          have := hgN.dow _ b hb'
          rw [hgetm i hi, mapI_isBuf] at this; exact this
        blk := fun i => by
          by_cases hi : i ∈ keys H'
          · have h1 := hgN.blk (exI ex i)
            rw [hgetm i hi] at h1
            have h2 := h1.unren (pt' := ptF) (ow' := owF) (i := i) (exI ex) (hF i hi).1 (hF i hi).2 fun e => by
              rcases hexI i hi with ⟨h3, h4, h5⟩ | ⟨h3, _, _⟩
              · rw [h5] at e; exact e
              · have := (hexin i hi h3).2; rw [e] at this; simp only [CBID] at this; omega
            refine h2.mono rfl rfl hV (fun x hx => ?_) (fun _ _ _ h => h) (fun _ _ _ h => h)
            obtain ⟨_, hx'⟩ := hFw i x hx
            rw [(hF i hi).1]; exact hgN.ptow hx'
          · have : hget H' i = .dead := by
              cases e : hget H' i <;> first | rfl | exact absurd (hkeyH' i (by rw [e]; simp)) hi
            rw [this]; trivial }
    · intro i m b cs Ty hm hb' hcs
      obtain ⟨hi, hb''⟩ := hFp i b hb'
      have h1 := hgetm i hi
      rw [hm] at h1
      simp only [Blk.mapI] at h1
      obtain ⟨l0, h2, h3, h4⟩ := hcel _ _ h1
      rw [h4] at hb''
      exact hR2 m _ (Rs.le _ _ _ h3 (hless _) ((hs pt1 ow1 (Agr.refl _ _ _)).2 _ l0 b cs Ty h2 hb'' hcs))
    · exact {
        os := hgN.os, tape := hgN.tape, output := hgN.output, size := hgN.size
        same := fun b hb hn hS => hgN.keep b hb fun h => h.elim (fun ⟨i, hi⟩ => hn i hi) hS
        mm := fun b hb => .inl hb
        mn := fun b hb => by
          rcases hb with h1 | h1 | ⟨i, hi, h1⟩
          · exact .inl h1
          · rcases hgN.gl b h1 with h2 | h2
            · exact .inr h2
            · exact .inl (hcore.gm b h2.2)
          · exact .inr (hbln i b (hexlo i hi) h1)
        sn := fun b hb => by
          rcases hgN.gl b hb with h2 | h2
          · exact .inr h2
          · exact .inl h2.2
        lept := fun i b hb => by
          obtain ⟨hi, hb'⟩ := hFp i b hb
          rcases hexI i hi with ⟨h1, h2, h3⟩ | ⟨h1, _, _⟩
          · rw [h3] at hb'; exact .inl (hfarp i b h2 hb')
          · exact .inr ⟨hbln _ b (hexin i hi h1).2 (by simp [bl, hb']), h1⟩
        leow := fun i x hx => by
          obtain ⟨hi, hx'⟩ := hFw i x hx
          rcases hexI i hi with ⟨h1, h2, h3⟩ | ⟨h1, _, _⟩
          · rw [h3] at hx'; exact .inl (hfarw i x h2 hx')
          · refine .inr ⟨fun b hb => .inl (hbln _ b (hexin i hi h1).2 ?_), h1⟩
            unfold bl
            rw [hgN.ptow hx', hx']
            cases x <;> first | exact hb | (simp [vbl] at hb; done) | (rename_i ao _ _; cases ao <;> first | exact hb | (simp [vbl] at hb; done)) }
  refine callsIn_wide.1 (callsIn_of_wp_marks (n := 0) hf hb trivial (codeK_sound hT hmx code true ⟨Fence.wide, .inl rfl⟩ c0 _ _ _ _ _ (fun _ => rfl) hrel hk fun e σ a w' hr hK => ?_))
  cases e with
  | normal => exact hfin σ a w' hr hK
  | ret => exact hfin σ a w' hr hK
  | _ => exact hK.elim
end
end Go.Sx
