/-
  Seat .Z: functions that take a tape with results of its caller's own, and hand them back as they are.
-/
import Derived.Test.YtmcdnbmamoggoaaGreatQTa
set_option linter.unusedVariables false
set_option linter.unusedSimpArgs false
namespace Go.Proofs.YtmcdnbmamoggoaaGreat
open Go Go.Sx
theorem core_noS {M : Nat → Prop} {pt : Nat → Option Nat} {ow : Nat → Option Value} {S : Nat → Prop} {H : Hp} {w : World} (hg : noGst (blks H) = true) (h : Core M pt ow S H w) : Core M pt ow (fun _ => False) H w := {
  fresh := h.fresh, mt := h.mt, inj := h.inj, gm := fun b hb => hb.elim, gd := fun i b _ hb => hb, dpt := h.dpt, dow := h.dow
  blk := fun i => by
    have h1 := h.blk i
    have h2 := noGst_iff hg i
    revert h1 h2
    generalize hget H i = b
    intro h1 h2
    cases b with
    | gst J => exact absurd rfl (h2 J)
    | free => trivial
    | dead => trivial
    | cells l => exact h1
    | buf e k xs => exact h1
    | map kk vk m => exact h1 }
/-- A function that lays nothing anew, as a contract of the plain kind. -/
theorem fnRB_ok {P : Program} {f : Nat} {H H' : Hp} {A : List AV} {r : AV} (hg : noGst (blks H) = true) (h : FnRB P f [] H A r H') : FnOK P f H A r H' := by
  refine ⟨h.1, fun w M pt ow S vs hcore hcont hargs => (h.2 w M pt ow vs (core_noS hg hcore) hcont hargs).mono ?_⟩
  rintro e w' ⟨v, M', pt', ow', he, hc, hk, hr, hL⟩
  exact ⟨v, M', pt', ow', fun _ => False, he, hc, hk, hr, hL.os, hL.tape, hL.output, hL.size, fun b hb hn _ => hL.same b hb hn, hL.mm, hL.mn, fun b hb => hb.elim,
    fun i b hb => .inl (hL.lept i b hb), fun i x hx => (hL.leow i x hx).elim .inl fun h => by cases h.1⟩
def T3 : Tab := { T2 with of := 35 :: 62 :: T2.of }
theorem hT3 : TabOK Tryz.prog T3 := tab_ok3 key72 key3 (by kernel_rfl) (by kernel_rfl)
end Go.Proofs.YtmcdnbmamoggoaaGreat
