/- What any bytes are, from any byte on: the program's answer is the document's. -/
import Derived.Test.YtkidppjaclgkkaaPackC
namespace Go.Proofs.Ytkidppjaclgkkaa.Pure
open Go.RowKit Go.Proofs.Ytkidppjaclgkkaa.XPack Go.Proofs.YtkidppjaclgkkaaW.PrintWords Go.Proofs.YtkidppjaclgkkaaW.PrintLast Go.Proofs.YtkidppjaclgkkaaW.PrintMore

theorem PackReads : barrowlaw03_PackReads.Pure := by
  intro l a most wl wl2 wb wa wm
  have hb : Bytes l := fun x hx => u8_of (wb x hx)
  refine ⟨10001, ?_⟩
  unfold barrowlaw03_PackReads.f
  rw [pack_small' 10001 (by decide)]
  simp only [Option.bind_some]
  by_cases h : (l.length : Int) > 2048
  · rw [if_pos h]
  · rw [if_neg h, readuint_eq 10001 l hb (by omega) (by omega), refreaduint_eq 10001 l hb (by omega) (by omega), readint_eq 10001 l hb (by omega) (by omega), refreadint_eq 10001 l hb (by omega) (by omega)]
    simp only [Option.bind_some, if_true, bne_self_eq_false, barrowlaw03_PackReads.j0]
    obtain ⟨t, ht1, ht2⟩ := readtext_eq 10000 l hb (by omega) (by omega) a most
    obtain ⟨r, hr1, hr2, hr3⟩ := readints_eq 10000 l hb (by omega) (by omega) a most
    rw [if_neg (by decide), ht1, ht2, hr1, hr2]
    simp only [Option.bind_some, if_true]
    rw [same_eq 10000 r.1 (by omega) (by omega)]
    simp
end Go.Proofs.Ytkidppjaclgkkaa.Pure
