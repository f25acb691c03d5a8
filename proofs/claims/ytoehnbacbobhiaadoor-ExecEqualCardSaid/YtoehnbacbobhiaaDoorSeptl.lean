/- Four results that lie in boxes. Own text. -/
import Derived.Test.YtoehnbacbobhiaaDoorSepu
namespace Go.Sep
open Go.RowKit Go.Flow Go.Mem
theorem box_res {P : Program} {Γ : List Chunk} {ρ : Slots} {a : Act} {w : World} {t b n i : Nat} {ty ty' : TypeId} {cs : List Value} (hs : sat Γ w) (ha : Sees ρ a) (hv : look ρ t = some (.pointer (some ⟨b, 0, none⟩))) (hi : Γ[i]? = some (box b cs ty')) (ht : RowTy P ty n) (hl : cs.length = n) : (loadVar ty ⟨b, 0, none⟩).run P w = .ok (.agg cs.toArray) w ∧ a.tmps[t]?.getD undef = .pointer (some ⟨b, 0, none⟩) := by
  obtain ⟨d, h1, h2, h3⟩ := ht
  have hw := hs.each _ (List.mem_of_getElem? hi)
  have := run_loadVar_mid (P := P) w b 0 ty cs d (range_of_whole hw) h1 h2 (by rw [hl]; exact h3)
  exact ⟨this, by rw [ha t _ hv]; rfl⟩
theorem To.endC4 {P : Program} {C : Cx} {ρ : Slots} {Γ Δ E : List Chunk} {R : Value → List Chunk → Prop} {fn : Func} {ex : Exit} {t1 b1 n1 i1 t2 b2 n2 i2 t3 b3 n3 i3 t4 b4 n4 i4 : Nat} {y1 z1 y2 z2 y3 z3 y4 z4 : TypeId} {c1 c2 c3 c4 : List Value} (is : List Nat) (hpl : pull Γ is = some (Δ, E)) (hex : ex = .ret ∨ ex = .normal) (hres : fn.results = #[.cell t1 y1, .cell t2 y2, .cell t3 y3, .cell t4 y4])
    (v1 : look ρ t1 = some (.pointer (some ⟨b1, 0, none⟩))) (h1 : Γ[i1]? = some (box b1 c1 z1)) (r1 : RowTy P y1 n1) (l1 : c1.length = n1)
    (v2 : look ρ t2 = some (.pointer (some ⟨b2, 0, none⟩))) (h2 : Γ[i2]? = some (box b2 c2 z2)) (r2 : RowTy P y2 n2) (l2 : c2.length = n2)
    (v3 : look ρ t3 = some (.pointer (some ⟨b3, 0, none⟩))) (h3 : Γ[i3]? = some (box b3 c3 z3)) (r3 : RowTy P y3 n3) (l3 : c3.length = n3)
    (v4 : look ρ t4 = some (.pointer (some ⟨b4, 0, none⟩))) (h4 : Γ[i4]? = some (box b4 c4 z4)) (r4 : RowTy P y4 n4) (l4 : c4.length = n4)
    (h : R (.tuple #[.agg c1.toArray, .agg c2.toArray, .agg c3.toArray, .agg c4.toArray]) Δ) (hds : C.ds = [] := by rfl) : To C ρ Γ (bodyPost P fn (Fin C R) ex) := fun a w ha hp => by
  have hr : (results fn a.tmps).run P w = .ok (.tuple #[.agg c1.toArray, .agg c2.toArray, .agg c3.toArray, .agg c4.toArray]) w := by
    have e1 := box_res (P := P) hp.sat ha.sees v1 h1 r1 l1
    have e2 := box_res (P := P) hp.sat ha.sees v2 h2 r2 l2
    have e3 := box_res (P := P) hp.sat ha.sees v3 h3 r3 l3
    have e4 := box_res (P := P) hp.sat ha.sees v4 h4 r4 l4
    simp [results, hres, e1.1, e1.2, e2.1, e2.2, e3.1, e3.2, e4.1, e4.2, asAddr]
  have hq : Post C.Γ0 Δ C.w0 w := (hp.perm (pull_perm hpl)).drop
  rcases hex with rfl | rfl
  · exact ⟨ha.defers.trans hds, _, hr, _, Δ, rfl, h, hq⟩
  · exact ⟨ha.defers.trans hds, _, hr, _, Δ, rfl, h, hq⟩
end Go.Sep
