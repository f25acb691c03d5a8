/- What a run leaves; the units of the law. Plain facts. Own text. -/
import Derived.Test.YtoehnbacbobhiaaGreatDoorX44
set_option linter.unusedVariables false
set_option linter.unusedSimpArgs false
namespace Go.Proofs.YtoehnbacbobhiaaGreatDoor
open Go.Sep Go.RowKit Go.Flow Go.Mem
theorem Post.layRow {α : Type} {enc : α → List Value} {e : TypeId} {size : Nat} {A : Option Addr} {cap : Nat} {l : List α} {Δ : List Chunk} {w : World} (hs : sat (rows enc e size A cap l :: Δ) w) : Post (rows enc e size A cap l :: Δ) (ros enc A l :: Δ) w w := by
  refine Post.frame (Γ := [rows enc e size A cap l]) (Γ' := [ros enc A l]) hs ⟨⟨fun c hc => ?_, by simp [owns, ros, ro], fun g _ => by simp [owns, ros, ro]⟩, Keeps.refl _ _, fun g hg => by simp [owns, ros, ro] at hg, fun g hg _ => ?_⟩
  · rw [List.mem_singleton.1 hc]
    exact oks_row (Γ := [rows enc e size A cap l]) 0 rfl w (fun c hc => hs.each c (by rw [List.mem_singleton.1 hc]; exact List.mem_cons_self ..))
  · refine .inl ?_
    have h1 : g ∈ rblks A (l.flatMap enc) := by simpa [reads, ros, ro] using hg
    have h2 : g ∈ blks A := by
      cases h3 : l.flatMap enc with
      | nil => rw [h3] at h1; simp [rblks] at h1
      | cons u us => rw [h3] at h1; exact h1
    simpa [owns, rows, row] using h2
theorem Does.layRow {P : Program} {f : FuncId} {args : List Value} {Γ : List Chunk} {R : Value → List Chunk → Prop} {α : Type} {enc : α → List Value} {e : TypeId} {size : Nat} {A : Option Addr} {cap : Nat} {l : List α} (h : Does P f args (ros enc A l :: Γ) R) : Does P f args (rows enc e size A cap l :: Γ) R := fun w hs =>
  (h w (Post.layRow hs).sat).mono fun _ _ ⟨v, Γ', h1, h2, h3⟩ => ⟨v, Γ', h1, h2, (Post.layRow hs).trans h3⟩
def EfOk (e : EfV) : Prop := (0 ≤ e.k ∧ e.k ≤ 255) ∧ e.args.length ≤ 1000
structure FinD (nv nt : Nat) (d : Dv) : Prop where
  effs : ∀ e ∈ d.effs, EfOk e
  vars : d.vars.length = nv
  tabs : d.tabs.length = nt
  good : ∀ t ∈ d.tabs, Good t
  disk : Good d.disk
theorem fin_snoc {l : List EfV} {e : EfV} (h : ∀ e ∈ l, EfOk e) (he : EfOk e) : ∀ e' ∈ l ++ [e], EfOk e' := fun e' h' => by
  rcases List.mem_append.1 h' with h1 | h1
  · exact h e' h1
  · rw [List.mem_singleton.1 h1]; exact he
theorem FinD.stop {nv nt : Nat} {d : Dv} (h : FinD nv nt d) : FinD nv nt (stopV d) := ⟨fin_snoc h.effs ⟨by decide, by simp [faultE]⟩, h.vars, h.tabs, h.good, h.disk⟩
theorem FinD.step {nv nt : Nat} {s : Sm} {x : Ins} {d : Dv} (h : FinD nv nt d) (hf : Fit s x d) : FinD nv nt (stepV s x d) := by
  by_cases h1 : ((x.op : Nat) : Int) = 30 ∨ ((x.op : Nat) : Int) = 31
  · rw [stepV_send h1]
    have hn := hf.sends h1
    have hl : (d.stack.drop (d.stack.length - x.n.toNat)).length ≤ 1000 := by rw [List.length_drop]; omega
    by_cases h8 : d.sends = 8
    · rw [sendV_8 h8]; exact ⟨h.effs, h.vars, h.tabs, h.good, h.disk⟩
    · by_cases h31 : ((x.op : Nat) : Int) = 31
      · rw [sendV_31 h8 h31]; exact ⟨fin_snoc h.effs ⟨by show (0 : Int) ≤ 2 ∧ (2 : Int) ≤ 255; decide, hl⟩, h.vars, h.tabs, h.good, h.disk⟩
      · rw [sendV_30 h8 h31]; exact ⟨fin_snoc h.effs ⟨by show (0 : Int) ≤ 1 ∧ (1 : Int) ≤ 255; decide, hl⟩, h.vars, h.tabs, h.good, h.disk⟩
  by_cases h2 : ((x.op : Nat) : Int) = 32 ∨ ((x.op : Nat) : Int) = 33
  · rw [stepV_disk h2]
    obtain ⟨P, _⟩ := shape_disk (s := s) h2 hf.pops
    refine ⟨?_, P.vars.trans h.vars, P.tabs.trans h.tabs, P.good h.good, P.disk h.disk⟩
    by_cases h32 : ((x.op : Nat) : Int) = 32
    · rw [diskV_32 h32]; exact fin_snoc h.effs ⟨by show (0 : Int) ≤ 3 ∧ (3 : Int) ≤ 255; decide, by simp⟩
    · by_cases hb : s.dsk + d.disks ∈ s.fail
      · rw [diskV_33b h32 hb]; exact fin_snoc h.effs ⟨by show (0 : Int) ≤ 4 ∧ (4 : Int) ≤ 255; decide, by simp⟩
      · rw [diskV_33g h32 hb]; exact fin_snoc h.effs ⟨by show (0 : Int) ≤ 4 ∧ (4 : Int) ≤ 255; decide, by simp⟩
  by_cases h3 : ((x.op : Nat) : Int) = 6 ∨ ((x.op : Nat) : Int) = 7 ∨ ((x.op : Nat) : Int) = 8 ∨ ((x.op : Nat) : Int) = 25 ∨ ((x.op : Nat) : Int) = 26
  · rw [stepV_table h3]
    obtain ⟨P, _⟩ := shape_table h3 hf.pops
    exact ⟨by rw [tableV_effs]; exact h.effs, P.vars.trans h.vars, P.tabs.trans h.tabs, P.good h.good, P.disk h.disk⟩
  have hs : Simple x := by unfold Simple; omega
  obtain ⟨_, p2, p3, _, _⟩ := step_shape (s := s) (d := d) hs hf.ops hf.pops
  obtain ⟨k1, k2, _, _⟩ := simple_keeps (s := s) (d := d) hs
  exact ⟨by rw [p3]; exact h.effs, p2.trans h.vars, by rw [k1]; exact h.tabs, by rw [k1]; exact h.good, by rw [k2]; exact h.disk⟩
theorem run_fin {s : Sm} {I : Nat → Dv → Prop} (hR : Runs2 s I) {nv nt : Nat} : ∀ (f k : Nat) (d : Dv), k + f = 1048576 → I k d → FinD nv nt d → FinD nv nt (runV s f d) ∧ (runV s f d).effs.length ≤ 2000002
  | 0, k, d, hk, hI, h => by
    have he := hR.effs _ _ hI
    rw [runV]
    split
    · refine ⟨FinD.stop ⟨h.effs, h.vars, h.tabs, h.good, h.disk⟩, ?_⟩
      show (d.effs ++ [faultE]).length ≤ 2000002
      rw [List.length_append]; simp only [List.length_cons, List.length_nil]; omega
    · exact ⟨h, by omega⟩
  | f + 1, k, d, hk, hI, h => by
    have he := hR.effs _ _ hI
    have hn := hR.next _ _ hI
    by_cases hlt : d.next < s.code.length
    · obtain ⟨x, hx⟩ : ∃ x, s.code[d.next.toNat]? = some x := ⟨s.code[d.next.toNat]'(by omega), List.getElem?_eq_getElem _⟩
      rw [runV_step hlt hx]
      obtain ⟨f1, _⟩ := hR.fit _ _ x hI hx
      have h2 : FinD nv nt { d with next := d.next + 1 } := ⟨h.effs, h.vars, h.tabs, h.good, h.disk⟩
      have h3 := h2.step f1
      have h4 := stepV_effs s x { d with next := d.next + 1 }
      by_cases hf : (stepV s x { d with next := d.next + 1 }).fault = true
      · rw [if_pos hf]
        refine ⟨h3.stop, ?_⟩
        show ((stepV s x { d with next := d.next + 1 }).effs ++ [faultE]).length ≤ 2000002
        have h5 : ({ d with next := d.next + 1 } : Dv).effs.length ≤ 2000000 := he
        rw [List.length_append]; simp only [List.length_cons, List.length_nil]; omega
      · rw [if_neg hf]
        exact run_fin hR f (k + 1) _ (by omega) (hR.step _ _ x hI (by omega) hx (by simpa using hf)) h3
    · rw [runV_end hlt]; exact ⟨h, by omega⟩
def m36 (x : Ins) : Ins := ⟨x.op % 36, x.a, x.b, x.n⟩
theorem m36_op {l : List Ins} : ∀ x ∈ l.map m36, x.op < 256 := fun x hx => by
  obtain ⟨y, _, rfl⟩ := List.mem_map.1 hx
  have : y.op % 36 < 36 := Nat.mod_lt _ (by decide)
  show y.op % 36 < 256
  omega
theorem map_snoc {l : List Ins} {i : Nat} {x : Ins} (hx : l[i]? = some x) : (l.take (i + 1)).map m36 = (l.take i).map m36 ++ [m36 x] := by rw [take_of_get hx, List.map_append]; rfl
theorem stV_good {a : Sx} {w : Wx} {nv nt : Nat} (h : a.val = stV w nv nt) (hnt : nt ≤ 16) : a.vars.length = nv ∧ a.tabs.length = nt ∧ (∀ y ∈ a.tabs, Good y.l) ∧ Good a.dk.l := by
  unfold Sx.val stV at h
  simp only [Prod.mk.injEq] at h
  obtain ⟨h1, h2, h3⟩ := h
  refine ⟨by rw [h1, pad_len], ?_, fun y hy => ?_, ?_⟩
  · have := congrArg List.length h2
    rwa [List.length_map, tabs_len] at this
  · have h4 : y.l ∈ a.tabs.map Tb.l := List.mem_map.2 ⟨y, hy, rfl⟩
    rw [h2] at h4
    obtain ⟨i, _, h5⟩ := List.mem_map.1 h4
    rw [← h5]
    exact Good.of (by rw [List.length_take]; omega)
  · rw [h3]; exact Good.of (by rw [List.length_take]; omega)
theorem run_small {c : Cl} {l : List Ins} {pr st : Int} {a : Sx} {d : Dm} {nv nt : Nat} (hnv : nv ≤ 1000) (hnt : nt ≤ 16) (hv0 : verifyV pr st l = 0) (hpr : (c.args.length : Int) = pr) (href : ∀ x ∈ l, referB x a.vars.length a.tabs.length c.flags.length = true) (hfl : c.fail.length ≤ 12) (hdsk : 0 ≤ c.dsk ∧ c.dsk ≤ 1000000000)
    (hg : a.vars.length = nv ∧ a.tabs.length = nt ∧ (∀ y ∈ a.tabs, Good y.l) ∧ Good a.dk.l) (hv : d.val = runV (c.sm l) 1048576 (d0G a.vars (a.tabs.map Tb.l) a.dk.l)) : d.sx.small2 ∧ (∀ x ∈ d.effs, 0 ≤ x.k ∧ x.k ≤ 255) ∧ (∀ x ∈ d.effs, x.args.length ≤ 1000000000000) ∧ d.effs.length ≤ 1000000000 := by
  obtain ⟨g1, g2, g3, g4⟩ := hg
  have hgt : ∀ t ∈ a.tabs.map Tb.l, Good t := fun t ht => by obtain ⟨y, hy, rfl⟩ := List.mem_map.1 ht; exact g3 y hy
  obtain ⟨I, hR, hI⟩ := all_run (s := c.sm l) (V := a.vars) (tb := a.tabs.map Tb.l) (dk := a.dk.l) hv0 (fun x hx => by rw [List.length_map]; exact href x hx) hpr (isortI_asc _) (by show (isort cmpI c.fail).length ≤ 1000000; rw [isort_len]; omega) hdsk hgt g4
  obtain ⟨F, hl⟩ := run_fin hR (nv := nv) (nt := nt) 1048576 0 _ (by omega) hI ⟨by simp, g1, by show (a.tabs.map Tb.l).length = nt; rw [List.length_map]; exact g2, hgt, g4⟩
  rw [← hv] at F hl
  have e1 : d.effs.length = d.val.effs.length := by show _ = (d.effs.map Ef.val).length; rw [List.length_map]
  have e2 : ∀ x ∈ d.effs, EfOk x.val := fun x hx => F.effs _ (List.mem_map.2 ⟨x, hx, rfl⟩)
  refine ⟨⟨?_, ?_, fun y hy => ?_, ?_⟩, fun x hx => (e2 x hx).1, fun x hx => Nat.le_trans (e2 x hx).2 (by decide), by omega⟩
  · have : d.vars.length = nv := F.vars
    show d.vars.length ≤ 1000000; omega
  · have : (d.tabs.map Tb.l).length = nt := F.tabs
    rw [List.length_map] at this
    show d.tabs.length ≤ 1000000; omega
  · have := (F.good y.l (List.mem_map.2 ⟨y, hy, rfl⟩)).len; omega
  · have : Good d.dk.l := F.disk
    have := this.len
    show d.dk.l.length ≤ 1000000; omega
end Go.Proofs.YtoehnbacbobhiaaGreatDoor
