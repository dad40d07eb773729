/-
  slices.Sort and slices.Compact of strings: the library's contracts, laid at this program's numbers, as contracts of the engine.
-/
import Derived.Test.YtnijmbnkcmhfpaaGreatDoorQUa
import Derived.Shelf.Sort.Plain
import Derived.Shelf.Slices.In.SortNone
import Derived.Shelf.Slices.CompactS
set_option linter.unusedVariables false
set_option linter.unusedSimpArgs false
namespace Go.Proofs.YtnijmbnkcmhfpaaGreatDoor
open Go Go.Sx
def laySort_ren : Go.Shelf.Ren := ⟨fun | 190 => 33 | 125 => 64 | 258 => 63 | 128 => 113 | 129 => 114 | 302 => 104 | 303 => 105 | 304 => 106 | 305 => 107 | 306 => 108 | 307 => 109 | 308 => 110 | 309 => 111 | 310 => 112 | 333 => 154 | 329 => 155 | 330 => 156 | 334 => 157 | 335 => 158 | 336 => 159 | 344 => 210 | n => n, fun | 31 => 27 | 9 => 9 | 3 => 3 | 46 => 94 | 0 => 0 | 51 => 113 | 53 => 70 | 4 => 4 | 183 => 119 | 182 => 118 | 131 => 124 | 5 => 5 | 218 => 147 | 222 => 81 | 228 => 177 | 229 => 129 | n => n, fun | n => n⟩
theorem laySort : Go.Proofs.Lays.n190 Tryz.prog laySort_ren where
  mixed := by kernel_rfl
  f125 := Tryz.func64.trans (congrArg some (by kernel_rfl))
  f128 := Tryz.func113.trans (congrArg some (by kernel_rfl))
  f129 := Tryz.func114.trans (congrArg some (by kernel_rfl))
  f190 := Tryz.func33.trans (congrArg some (by kernel_rfl))
  f258 := Tryz.func63.trans (congrArg some (by kernel_rfl))
  f302 := Tryz.func104.trans (congrArg some (by kernel_rfl))
  f303 := Tryz.func105.trans (congrArg some (by kernel_rfl))
  f304 := Tryz.func106.trans (congrArg some (by kernel_rfl))
  f305 := Tryz.func107.trans (congrArg some (by kernel_rfl))
  f306 := Tryz.func108.trans (congrArg some (by kernel_rfl))
  f307 := Tryz.func109.trans (congrArg some (by kernel_rfl))
  f308 := Tryz.func110.trans (congrArg some (by kernel_rfl))
  f309 := Tryz.func111.trans (congrArg some (by kernel_rfl))
  f310 := Tryz.func112.trans (congrArg some (by kernel_rfl))
  f329 := Tryz.func155.trans (congrArg some (by kernel_rfl))
  f330 := Tryz.func156.trans (congrArg some (by kernel_rfl))
  f333 := Tryz.func154.trans (congrArg some (by kernel_rfl))
  f334 := Tryz.func157.trans (congrArg some (by kernel_rfl))
  f335 := Tryz.func158.trans (congrArg some (by kernel_rfl))
  f336 := Tryz.func159.trans (congrArg some (by kernel_rfl))
  f344 := Tryz.func210.trans (congrArg some (by kernel_rfl))
  t0 := Tryz.underlying0
  a0 := Tryz.isAgg0
  z0 := Tryz.sizeOf0
  v0 := Tryz.zeroValue0
  t3 := Tryz.underlying3
  a3 := Tryz.isAgg3
  z3 := Tryz.sizeOf3
  v3 := Tryz.zeroValue3
  t4 := Tryz.underlying4
  a4 := Tryz.isAgg4
  z4 := Tryz.sizeOf4
  v4 := Tryz.zeroValue4
  t5 := Tryz.underlying5
  a5 := Tryz.isAgg5
  z5 := Tryz.sizeOf5
  v5 := Tryz.zeroValue5
  t9 := Tryz.underlying9
  a9 := Tryz.isAgg9
  z9 := Tryz.sizeOf9
  v9 := Tryz.zeroValue9
  t31 := Tryz.underlying27
  a31 := Tryz.isAgg27
  z31 := Tryz.sizeOf27
  v31 := Tryz.zeroValue27
  t46 := Tryz.underlying94
  a46 := Tryz.isAgg94
  z46 := Tryz.sizeOf94
  v46 := Tryz.zeroValue94
  t51 := Tryz.underlying113
  a51 := Tryz.isAgg113
  z51 := Tryz.sizeOf113
  v51 := Tryz.zeroValue113
  t53 := Tryz.underlying70
  a53 := Tryz.isAgg70
  z53 := Tryz.sizeOf70
  v53 := Tryz.zeroValue70
  t131 := Tryz.underlying124
  a131 := Tryz.isAgg124
  z131 := Tryz.sizeOf124
  v131 := Tryz.zeroValue124
  t182 := Tryz.underlying118
  a182 := Tryz.isAgg118
  z182 := Tryz.sizeOf118
  v182 := Tryz.zeroValue118
  t183 := Tryz.underlying119
  a183 := Tryz.isAgg119
  z183 := Tryz.sizeOf119
  v183 := Tryz.zeroValue119
  t218 := Tryz.underlying147
  a218 := Tryz.isAgg147
  z218 := Tryz.sizeOf147
  v218 := Tryz.zeroValue147
  t222 := Tryz.underlying81
  a222 := Tryz.isAgg81
  z222 := Tryz.sizeOf81
  v222 := Tryz.zeroValue81
  t228 := Tryz.underlying177
  a228 := Tryz.isAgg177
  z228 := Tryz.sizeOf177
  v228 := Tryz.zeroValue177
  t229 := Tryz.underlying129
  a229 := Tryz.isAgg129
  z229 := Tryz.sizeOf129
  v229 := Tryz.zeroValue129
def layCompact_ren : Go.Shelf.Ren := ⟨fun | 194 => 34 | n => n, fun | 31 => 27 | 9 => 9 | 3 => 3 | 4 => 4 | 0 => 0 | n => n, fun | n => n⟩
theorem layCompact : Go.Proofs.Lays.n194 Tryz.prog layCompact_ren where
  mixed := by kernel_rfl
  f194 := Tryz.func34.trans (congrArg some (by kernel_rfl))
  t0 := Tryz.underlying0
  a0 := Tryz.isAgg0
  z0 := Tryz.sizeOf0
  v0 := Tryz.zeroValue0
  t3 := Tryz.underlying3
  a3 := Tryz.isAgg3
  z3 := Tryz.sizeOf3
  v3 := Tryz.zeroValue3
  t4 := Tryz.underlying4
  a4 := Tryz.isAgg4
  z4 := Tryz.sizeOf4
  v4 := Tryz.zeroValue4
  t9 := Tryz.underlying9
  a9 := Tryz.isAgg9
  z9 := Tryz.sizeOf9
  v9 := Tryz.zeroValue9
  t31 := Tryz.underlying27
  a31 := Tryz.isAgg27
  z31 := Tryz.sizeOf27
  v31 := Tryz.zeroValue27
/-! ### From the library's words to contracts -/
theorem hget1 (j i : Nat) (B : Blk) : hget [(j, B)] i = if j = i then B else .dead := by
  simp only [hget]
  by_cases h : j = i
  · subst h; simp
  · rw [if_neg h]
    have : Nat.beq j i = false := by
      cases e : Nat.beq j i with
      | false => rfl
      | true => exact absurd (Nat.eq_of_beq_eq_true e) h
    rw [this]
section
variable {w w' : World} {M : Nat → Prop} {pt : Nat → Option Nat} {ow : Nat → Option Value} {S : Nat → Prop} {j : Nat} {xs : List Bytes} {h : Value}
theorem core_pt (hc : Core M pt ow S [(j, .buf 9 .str xs)] w) (i : Nat) : pt i = none := by
  cases e : pt i with
  | none => rfl
  | some b =>
    have := hc.dpt i b e
    rw [hget1] at this
    split at this <;> cases this
theorem core_ow (hc : Core M pt ow S [(j, .buf 9 .str xs)] w) {i : Nat} (hi : i ≠ j) : ow i = none := by
  cases e : ow i with
  | none => rfl
  | some b =>
    have := hc.dow i b e
    rw [hget1, if_neg (fun h => hi h.symm)] at this
    cases this
theorem core_bl (hc : Core M pt ow S [(j, .buf 9 .str xs)] w) (hj : ow j = some h) : bl pt ow j = vbl h := by
  unfold bl
  rw [core_pt hc, hj]
  cases h <;> first | rfl | (rename_i ao _ _; cases ao <;> rfl)
theorem ans_same (hc : Core M pt ow S [(j, .buf 9 .str xs)] w) (hj : ow j = some h) (hos : w'.os = w.os) (htape : w'.tape = w.tape) (hout : w'.output = w.output) (hsz : w.heap.size ≤ w'.heap.size)
    (hsame : ∀ b, b < w.heap.size → vbl h ≠ some b → w'.heap[b]? = w.heap[b]?) {ys : List Bytes} (hb : BufOk w' (view w' M) 9 .str ys h) :
    Ans w M pt ow S (.tup []) [(j, .buf 9 .str ys)] (.returned (.tuple #[])) w' := by
  refine ⟨.tuple #[], M, pt, ow, S, rfl, ?_, ?_, ⟨#[], rfl, trivial⟩, ?_⟩
  · exact {
      fresh := fun b hb => Nat.lt_of_lt_of_le (hc.fresh b hb) hsz
      mt := hc.mt, inj := hc.inj, gm := hc.gm, gd := hc.gd
      dpt := fun i b e => by rw [core_pt hc] at e; cases e
      dow := fun i x e => by
        by_cases hi : i = j
        · subst hi; rw [hget1, if_pos rfl]; rfl
        · rw [core_ow hc hi] at e; cases e
      blk := fun i => by
        rw [hget1]
        split
        · rename_i e; subst e; exact ⟨h, hj, hb⟩
        · trivial }
  · intro i l b cs T hl hb'
    rw [core_pt hc] at hb'; cases hb'
  · exact {
      os := hos, tape := htape, output := hout, size := hsz
      same := fun b hb hn _ => hsame b hb fun e => hn j (by rw [core_bl hc hj]; exact e)
      mm := fun _ h => h, mn := fun _ h => .inl h, sn := fun _ h => .inl h, lept := fun _ _ h => .inl h, leow := fun _ _ h => .inl h }
theorem ans_take (hc : Core M pt ow S [(j, .buf 9 .str xs)] w) (hj : ow j = some h) {h' : Value} (hv : vbl h' = vbl h ∨ vbl h' = none) (hsl : ∃ a n c, h' = .slice a n c) (hos : w'.os = w.os) (htape : w'.tape = w.tape) (hout : w'.output = w.output)
    (hsz : w.heap.size ≤ w'.heap.size) (hsame : ∀ b, b < w.heap.size → vbl h ≠ some b → w'.heap[b]? = w.heap[b]?) {ys : List Bytes} (hb : BufOk w' (view w' M) 9 .str ys h') (hj2 : j ≠ 2000000) :
    Ans w M pt ow S (.own 2000000) [(j, .dead), (2000000, .buf 9 .str ys)] (.returned h') w' := by
  let ow' : Nat → Option Value := fun i => if i = 2000000 then some h' else none
  have hbl : ∀ i b, bl (fun _ => none) ow' i = some b → i = 2000000 ∧ vbl h = some b := fun i b e => by
    by_cases hi : i = 2000000
    · refine ⟨hi, ?_⟩
      subst hi
      have e2 : vbl h' = some b := by
        simp only [bl, ow', if_true] at e
        obtain ⟨a, n, c, rfl⟩ := hsl
        cases a <;> exact e
      rcases hv with h1 | h1
      · rw [← h1]; exact e2
      · rw [h1] at e2; cases e2
    · simp only [bl, ow', if_neg hi] at e; cases e
  have hget2 : ∀ i, hget [(j, .dead), (2000000, .buf 9 .str ys)] i = if 2000000 = i then .buf 9 .str ys else .dead := fun i => by
    rw [← hget1]
    show (match Nat.beq j i with | true => Blk.dead | false => hget [(2000000, Blk.buf 9 .str ys)] i) = _
    cases e : Nat.beq j i with
    | false => rfl
    | true =>
      have := Nat.eq_of_beq_eq_true e
      subst this
      rw [hget1, if_neg fun h => hj2 h.symm]
  refine ⟨h', M, fun _ => none, ow', S, rfl, ?_, ?_, ?_, ?_⟩
  · exact {
      fresh := fun b hb => Nat.lt_of_lt_of_le (hc.fresh b hb) hsz
      mt := fun i b e => hc.mt j b (by rw [core_bl hc hj]; exact (hbl i b e).2)
      inj := fun i k b e1 e2 => by rw [(hbl i b e1).1, (hbl k b e2).1]
      gm := hc.gm
      gd := fun i b e => hc.gd j b (by rw [core_bl hc hj]; exact (hbl i b e).2)
      dpt := fun i b e => by cases e
      dow := fun i x e => by
        by_cases hi : i = 2000000
        · subst hi; rw [hget2, if_pos rfl]; rfl
        · simp only [ow', if_neg hi] at e; cases e
      blk := fun i => by
        rw [hget2]
        split
        · rename_i e; subst e; exact ⟨h', by simp [ow'], hb⟩
        · trivial }
  · intro i l b cs T hl hb'
    cases hb'
  · refine ⟨hsl, fun x hx => ?_⟩
    have : some h' = some x := by simpa [ow'] using hx
    exact Option.some.inj this
  · exact {
      os := hos, tape := htape, output := hout, size := hsz
      same := fun b hb hn _ => hsame b hb fun e => hn j (by rw [core_bl hc hj]; exact e)
      mm := fun _ h => h, mn := fun _ h => .inl h, sn := fun _ h => .inl h, lept := fun _ _ h => by cases h
      leow := fun i x hx => by
        by_cases hi : i = 2000000
        · have hx2 : h' = x := by
            have : ow' i = some h' := by simp [ow', hi]
            rw [this] at hx; exact Option.some.inj hx
          subst hx2
          refine .inr ⟨fun b hb => .inr ⟨j, ?_⟩, by omega⟩
          rw [core_bl hc hj]
          rcases hv with h1 | h1
          · rw [← h1]; exact hb
          · rw [h1] at hb; cases hb
        · simp only [ow', if_neg hi] at hx; cases hx }
end
/-- A row of strings, rewritten. -/
theorem row_put {w : World} {b cap : Nat} {cs : Array Value} (hb : w.heap[b]? = some (.cells cs 9 (0, 0))) (hcs : cs.size = cap) (d : List Bytes) (hd : d.length ≤ cap) (n : Nat) (os : Array Obj) {w' : World}
    (hw : w' = Go.Sort.grow (Go.Sort.putRow Go.Proofs.encStr (Go.Sort.ahead w n) b 0 d.toArray) os) :
    w'.os = w.os ∧ w'.tape = w.tape ∧ w'.output = w.output ∧ w.heap.size ≤ w'.heap.size ∧ (∀ c, c < w.heap.size → c ≠ b → w'.heap[c]? = w.heap[c]?) ∧
      ∃ cs' : Array Value, w'.heap[b]? = some (.cells cs' 9 (0, 0)) ∧ cs'.size = cap ∧ ∀ (i : Nat) x, d[i]? = some x → cs'[i]? = some (.string ⟨x.toArray⟩) := by
  subst hw
  have hlt : b < w.heap.size := lt_of_some hb
  refine ⟨rfl, rfl, rfl, ?_, fun c hc hne => ?_, Go.Sort.putCells Go.Proofs.encStr 0 d.toArray cs, ?_, ?_, fun i x hx => ?_⟩
  · simp [Go.Sort.grow, Go.Sort.putRow, Go.Sort.mapBlock, Go.Sort.ahead]
  · simp only [Go.Sort.grow, Go.Sort.putRow, Go.Sort.mapBlock, Go.Sort.ahead]
    rw [Array.getElem?_append_left (by simpa using hc), Array.getElem?_modify, if_neg (fun h => hne h.symm)]
  · simp only [Go.Sort.grow, Go.Sort.putRow, Go.Sort.mapBlock, Go.Sort.ahead]
    rw [Array.getElem?_append_left (by simpa using hlt), Array.getElem?_modify, if_pos rfl, hb]
    rfl
  · simp [Go.Sort.putCells, hcs]
  · have hi : i < d.length := (List.getElem?_eq_some_iff.1 hx).1
    have hxe : d[i] = x := (List.getElem?_eq_some_iff.1 hx).2
    have hic : i < cs.size := by omega
    simp only [Go.Sort.putCells]
    rw [Array.getElem?_mapIdx, Array.getElem?_eq_getElem hic]
    simp only [Option.map_some]
    rw [if_pos (by simp; omega)]
    simp [hi, hxe]
theorem bufOk_of {w' : World} {V : View} {b cap : Nat} {cs' : Array Value} {d ys : List Bytes} (h1 : w'.heap[b]? = some (.cells cs' 9 (0, 0))) (h2 : cs'.size = cap) (h3 : ∀ (i : Nat) x, d[i]? = some x → cs'[i]? = some (.string ⟨x.toArray⟩))
    (hy : ∀ (i : Nat) x, ys[i]? = some x → d[i]? = some x) (hl : ys.length ≤ cap) (hm : cap ≤ maxLen) : BufOk w' V 9 .str ys (.slice (some ⟨b, 0, none⟩) ys.length cap) := by
  refine .inr ⟨b, cap, cs', rfl, h1, hl, hm, by rw [h2]; simp [Elt.size], fun i x hx k u hu => ?_⟩
  match k, hu with
  | 0, hu =>
    obtain rfl : .str x = u := by simpa [Elt.cells] using hu
    refine ⟨.string ⟨x.toArray⟩, ?_, .str x⟩
    have := h3 i x (hy i x hx)
    simpa [Elt.size] using this
  | k + 1, hu => simp [Elt.cells] at hu
theorem holds_of {w : World} {V : View} {b : Nat} {cs : Array Value} {xs : List Bytes} (hb : w.heap[b]? = some (.cells cs 9 (0, 0)))
    (hx : ∀ (i : Nat) (x : Bytes), xs[i]? = some x → ∀ (j : Nat) (u : AV), (Elt.str.cells x)[j]? = some u → ∃ v, cs[i * Elt.str.size + j]? = some v ∧ Leaf V u v) : Go.Sort.Holds Go.Proofs.encStr w b 0 xs.toArray := by
  intro i hi
  have hi : i < xs.length := by simpa using hi
  have hg : xs[i]? = some xs[i] := List.getElem?_eq_getElem hi
  obtain ⟨v, h1, h2⟩ := hx i xs[i] hg 0 (.str xs[i]) rfl
  cases h2
  have h1 : cs[i]? = some (.string ⟨xs[i].toArray⟩) := by simpa [Elt.size] using h1
  constructor
  · unfold World.cell?
    simp only [hb, Nat.zero_add]
    simp [h1, hi]
  · unfold World.frozen?
    simp only [hb]
    simp
theorem upTo_le (d : Array Bytes) : ∀ m, (Go.Lib.compactUpTo d m).length ≤ m
  | 0 => by simp [Go.Lib.compactUpTo]
  | m + 1 => by
    rw [Go.Lib.compactUpTo_succ, List.length_append]
    have := upTo_le d m
    split <;> simp <;> omega
theorem compact_le (xs : List Bytes) : (Go.Lib.compact xs).length ≤ xs.length := upTo_le _ _
theorem mem_upTo (d : Array Bytes) (x : Bytes) : ∀ m, x ∈ Go.Lib.compactUpTo d m ↔ ∃ j, j < m ∧ d[j]! = x
  | 0 => by simp [Go.Lib.compactUpTo]
  | m + 1 => by
    rw [Go.Lib.compactUpTo_succ, List.mem_append, mem_upTo d x m]
    constructor
    · rintro (⟨j, h1, h2⟩ | h)
      · exact ⟨j, by omega, h2⟩
      · split at h
        · simp only [List.mem_singleton] at h; exact ⟨m, by omega, h.symm⟩
        · simp at h
    · rintro ⟨j, h1, h2⟩
      rcases Nat.lt_or_ge j m with h3 | h3
      · exact .inl ⟨j, h3, h2⟩
      · obtain rfl : j = m := by omega
        by_cases hk : Go.Lib.keeps d j = true
        · exact .inr (by rw [if_pos hk]; simp [h2])
        · refine .inl ⟨j - 1, ?_⟩
          have hj : 0 < j := by
            rcases Nat.eq_zero_or_pos j with h0 | h0
            · subst h0; exact absurd (by simp [Go.Lib.keeps]) hk
            · exact h0
          refine ⟨by omega, ?_⟩
          by_cases he : d[j]! = d[j - 1]!
          · rw [← he]; exact h2
          · exact absurd (Go.Lib.keeps_pos he) hk
theorem mem_compact (xs : List Bytes) (x : Bytes) : x ∈ Go.Lib.compact xs ↔ x ∈ xs := by
  unfold Go.Lib.compact
  rw [mem_upTo]
  constructor
  · rintro ⟨j, h1, h2⟩
    rw [← h2]
    simp [h1]
  · intro h
    obtain ⟨j, h1, h2⟩ := List.getElem_of_mem h
    exact ⟨j, h1, by simp [h1, h2]⟩
def srtS (xs : List Bytes) : List Bytes := xs.mergeSort fun x y => decide (x ≤ y)
theorem ent136 : Ent Tryz.prog 33 := ⟨Tryz.f33, Tryz.func33, by kernel_rfl, by kernel_rfl⟩
theorem ent137 : Ent Tryz.prog 34 := ⟨Tryz.f34, Tryz.func34, by kernel_rfl, by kernel_rfl⟩
/-- slices.Sort of strings, on a slice of the caller's own. -/
theorem f136 (j : Nat) (xs : List Bytes) (hx : xs.length < 4611686018427387904) : FnOK Tryz.prog 33 [(j, .buf 9 .str xs)] [.own j] (.tup []) [(j, .buf 9 .str (srtS xs))] := by
  refine ⟨ent136, fun w M pt ow S vs hc _ ha => ?_⟩
  match vs, ha with
  | [v], ⟨⟨_, hv⟩, _⟩ =>
    have hbj := hc.blk j
    rw [hget1, if_pos rfl] at hbj
    obtain ⟨h, hj, hb⟩ := hbj
    obtain rfl : v = h := hv h hj
    have none : xs = [] → ∀ p cap, v = .slice p 0 cap → Calls Tryz.prog 33 #[v] w (Ans w M pt ow S (.tup []) [(j, .buf 9 .str (srtS xs))]) := fun hx0 p cap hp => by
      have e : srtS xs = xs := by subst hx0; simp [srtS]
      rw [e, hp]
      refine (Go.Proofs.Any.slices_Sort_string_none laySort p cap w).mono ?_
      rintro e w' ⟨rfl, rfl⟩
      exact ans_same hc hj rfl rfl rfl (Nat.le_refl _) (fun _ _ _ => rfl) hb
    rcases hb with ⟨h1, h2⟩ | ⟨b, cap, cs, h1, h2, h3, h4, h5, h6⟩
    · exact none h2 _ _ h1
    · by_cases hx0 : xs = []
      · exact none hx0 _ _ (by rw [h1, hx0]; rfl)
      · have hlt := lt_of_some h2
        have hcs : cs.size = cap := by rw [h5]; simp [Elt.size]
        subst h1
        refine (Go.Proofs.Any.slices_Sort_string laySort b 0 cap xs w (holds_of h2 h6) hlt hx).mono ?_
        rintro e w' ⟨rfl, n, os, hw⟩
        have hl : (srtS xs).length = xs.length := List.length_mergeSort _
        obtain ⟨g1, g2, g3, g4, g5, cs', g6, g7, g8⟩ := row_put h2 hcs (srtS xs) (by omega) n os hw
        have hbuf := bufOk_of (V := view w' M) (ys := srtS xs) g6 g7 g8 (fun _ _ h => h) (by omega) h4
        rw [hl] at hbuf
        exact ans_same hc hj g1 g2 g3 g4 (fun c hc' hne => g5 c hc' fun e => hne (by rw [e]; rfl)) hbuf
/-- slices.Compact of strings, on a slice of the caller's own: what comes back is the caller's own, under a new number. -/
theorem f137 (j : Nat) (hj2 : j ≤ 999999) (xs : List Bytes) : FnOK Tryz.prog 34 [(j, .buf 9 .str xs)] [.own j] (.own 2000000) [(j, .dead), (2000000, .buf 9 .str (Go.Lib.compact xs))] := by
  refine ⟨ent137, fun w M pt ow S vs hc _ ha => ?_⟩
  match vs, ha with
  | [v], ⟨⟨_, hv⟩, _⟩ =>
    have hbj := hc.blk j
    rw [hget1, if_pos rfl] at hbj
    obtain ⟨h, hj, hb⟩ := hbj
    obtain rfl : v = h := hv h hj
    have none : xs = [] → ∀ p cap, v = .slice p 0 cap → Calls Tryz.prog 34 #[v] w (Ans w M pt ow S (.own 2000000) [(j, .dead), (2000000, .buf 9 .str (Go.Lib.compact xs))]) := fun hx0 p cap hp => by
      have e : Go.Lib.compact xs = xs := by subst hx0; rfl
      rw [e, hp]
      refine (Go.Proofs.Any.slices_Compact_string_empty layCompact p cap w).mono ?_
      rintro e w' ⟨rfl, rfl⟩
      rw [← hp]
      exact ans_take hc hj (.inl rfl) ⟨_, _, _, hp⟩ rfl rfl rfl (Nat.le_refl _) (fun _ _ _ => rfl) hb (by omega)
    rcases hb with ⟨h1, h2⟩ | ⟨b, cap, cs, h1, h2, h3, h4, h5, h6⟩
    · exact none h2 _ _ h1
    · by_cases hx0 : xs = []
      · exact none hx0 _ _ (by rw [h1, hx0]; rfl)
      · have hlt := lt_of_some h2
        have hcs : cs.size = cap := by rw [h5]; simp [Elt.size]
        have hm : maxLen = 9223372036854775807 := by decide
        subst h1
        refine (Go.Proofs.Any.slices_Compact_string layCompact b 0 cap xs w (holds_of h2 h6) (by omega) h3).mono ?_
        rintro e w' ⟨rfl, n, hw⟩
        have hl : (Go.Lib.compact xs).length ≤ xs.length := compact_le xs
        have hw2 : w' = Go.Sort.grow (Go.Sort.putRow Go.Proofs.encStr (Go.Sort.ahead w n) b 0 (Go.Lib.compact xs ++ List.replicate (xs.length - (Go.Lib.compact xs).length) []).toArray) #[] := by rw [hw]; simp
        obtain ⟨g1, g2, g3, g4, g5, cs', g6, g7, g8⟩ := row_put h2 hcs _ (by simp; omega) n #[] hw2
        have hbuf := bufOk_of (V := view w' M) (ys := Go.Lib.compact xs) g6 g7 g8 (fun i x h => by rw [List.getElem?_append_left (List.getElem?_eq_some_iff.1 h).1]; exact h) (by omega) h4
        exact ans_take hc hj (h' := .slice (some ⟨b, 0, Option.none⟩) (Go.Lib.compact xs).length cap) (.inl rfl) ⟨_, _, _, rfl⟩ g1 g2 g3 g4 (fun c hc' hne => g5 c hc' fun e => hne (by rw [e]; rfl)) hbuf (by omega)
end Go.Proofs.YtnijmbnkcmhfpaaGreatDoor
