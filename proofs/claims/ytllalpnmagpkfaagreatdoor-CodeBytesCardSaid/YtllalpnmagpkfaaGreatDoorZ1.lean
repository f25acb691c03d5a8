/- append onto a row of one's own up to the end of all addresses and a little more. Own text. -/
import Derived.Test.YtllalpnmagpkfaaGreatDoorL2
set_option linter.unusedVariables false
set_option linter.unusedSimpArgs false
namespace Go.Sep
open Go.RowKit Go.Flow Go.Mem
theorem nextcap_near {need old : Nat} (h : old < need) : Builtin.nextslicecap need old ≤ need + need / 4 + 1024 := by
 unfold Builtin.nextslicecap
 split
 · omega
 · split
   · omega
   · rw [growBy_four]
     repeat' split
     all_goals omega
section
variable {P : Program}
theorem run_append_big (w : World) (t ty e : TypeId) (i : TypeInfo) (z : Value) (ht : P.underlying t = some (.slice e)) (hi : P.info? e = some i) (hz : i.zero = some z) (hsz : i.size = 1) (hb1 : i.bytes = 1) (hzs : z.cells.size = 1)
    (v : Value) (n : Nat) (xs : List Value) (hown : w.ownsRow 0 e 1 v n xs) (A : Option Addr) (m c : Nat) (news : List Value) (hl : news.length = m) (hs : Src w A news) (h1 : ∀ u ∈ news, u.oneCell' = true) (hbig : n + m ≤ 150000000000000) :
    ∃ v' w', (Builtin.append_ #[t, t] ty #[v, .slice A m c]).run P w = .ok v' w' ∧ w'.ownsRow 0 e 1 v' (n + m) (xs ++ news) ∧ Keeps (fun g => v.ownBlock = some g) w w' ∧ (v'.ownBlock = v.ownBlock ∨ v'.ownBlock = some w.heap.size) := by
 by_cases hsmall : n + m ≤ 140737488355328
 · exact run_append_from (P := P) w 0 t ty e i z 1 1 ht hi hz hsz hb1 hzs (by decide) v n xs hown A m c news (by omega) hs h1 (by simp only [maxLen]; omega) (by omega) (Nat.zero_le _)
 have hm64 : n + m ≤ maxLen := by simp only [maxLen]; omega
 have hxl : xs.length = n := by have := hown.1; omega
 have hlen : (xs ++ news).length = (n + m) * 1 := by rw [lap, hxl, hl, Nat.mul_one]
 by_cases hm0 : m = 0
 · subst hm0
   have hn : news = [] := List.eq_nil_of_length_eq_zero hl
   subst hn
   refine ⟨v, w, ?_, by simpa using hown, Keeps.refl _ _, .inl rfl⟩
   rcases hown.2 with ⟨rfl, rfl⟩ | ⟨g, cap, cur, rfl, _, _, hnc, _⟩
   · cases A <;> simp [Builtin.append_, run_underlying ht, sizeOf, typeInfo, hi, Builtin.lenOf, Builtin.firstCells, loadCells, loadCellsFrom]
   · cases A <;> simp [Builtin.append_, run_underlying ht, sizeOf, typeInfo, hi, Builtin.lenOf, Builtin.firstCells, hnc, storeCells, loadCells, loadCellsFrom]
 obtain ⟨ad, hA⟩ : ∃ ad, A = some ad := by
  cases A with
  | none => rcases hs with h | ⟨g, off, h, _⟩
            · rw [h] at hl; exact absurd hl.symm hm0
            · cases h
  | some ad => exact ⟨ad, rfl⟩
 subst hA
 have hc : ∀ j u, news[j]? = some u → w.cell? (ad.add j) = some u := by
  intro j u hu
  rcases hs with rfl | ⟨g, off, hA, hr⟩
  · simp at hu
  · injection hA with hA
    subst hA
    rw [Addr.add_mid]
    exact hr j u hu
 have grown : ∀ (old : Nat), (w.drew.alloc (.cells (xs.toArray ++ news.toArray ++ Builtin.zeroCells z.cells (grownCap w (n + m) old e - (n + m))) e)).ownsRow 0 e 1 (.slice (some ⟨w.heap.size, 0, none⟩) (n + m) (grownCap w (n + m) old e)) (n + m) (xs ++ news) := by
  intro old
  have hge := grownCap_ge w (n + m) old e
  refine ⟨hlen, .inr ⟨w.heap.size, _, _, rfl, Nat.zero_le _, heap_alloc_new w.drew _, hge, grownCap_le_maxLen w (n + m) old e hm64, ?_, ?_⟩⟩
  · simp only [Array.size_append, List.size_toArray, size_zeroCells, hzs, hxl, hl]
    omega
  · simp only [Array.toList_append, List.append_assoc]
    rw [← List.append_assoc, ← hlen]
    exact List.take_left
 have keep : ∀ (row : Option Nat) (old : Nat), w.grownBy (w.drew.alloc (.cells (xs.toArray ++ news.toArray ++ Builtin.zeroCells z.cells (grownCap w (n + m) old e - (n + m))) e)) row := fun row old => ⟨rfl, rfl, rfl, by simp, fun k hk _ => heap_alloc_old w.drew _ hk⟩
 have hk : ∀ w', w.grownBy w' v.ownBlock → w.drawn ≤ w'.drawn → Keeps (fun g => v.ownBlock = some g) w w' := fun w' h hd => (Keeps.of_grown h hd).mono fun _ _ h => h.symm
 have hnl : news.length = m * i.size := by rw [hl, hsz, Nat.mul_one]
 rcases hown.2 with ⟨rfl, rfl⟩ | ⟨g, cap, cur, rfl, hbg, hg, hnc, hcm, hcs, htake⟩
 · have hx : xs = [] := List.eq_nil_of_length_eq_zero (by simpa using hown.1)
   subst hx
   have hr := run_append_nil (P := P) w t ty e i z ht hi hz ad m c news hnl hc (by omega) (by omega) (by rw [hb1]; omega)
   have hg := grown 0
   have hkp := keep (Value.ownBlock (.slice none 0 0)) 0
   simp only [Nat.zero_add, List.nil_append, Array.empty_append] at hg hkp ⊢
   exact ⟨_, _, hr, hg, hk _ hkp (run_drawn _ _ _ _ hr), .inr rfl⟩
 · by_cases hroom : n + m ≤ cap
   · have hfit : n * i.size + news.length ≤ cur.size := by rw [hsz, hl, hcs]; omega
     have hr := run_append_room (P := P) w t ty e i ht hi g n cap cur hg ad m c news hnl hc h1 hroom hfit
     refine ⟨_, _, hr, ⟨hlen, .inr ⟨g, cap, _, rfl, hbg, setRow_heap w g cur _ e _ hg, hroom, hcm, ?_, ?_⟩⟩, hk _ ⟨rfl, rfl, rfl, by simp, fun k _ hk => setRow_other w g k _ (fun e => hk (by simp [Value.ownBlock, e]))⟩ (run_drawn _ _ _ _ hr), .inl rfl⟩
     · simp only [List.size_toArray, lap, List.length_take, List.length_drop, Array.length_toList, hl] at hfit ⊢
       omega
     · rw [hsz, htake, ← hlen]
       exact List.take_left
   · have holds : ∀ j u, xs[j]? = some u → w.cell? ((⟨g, 0, none⟩ : Addr).add j) = some u := hown.cells (g := g) rfl
     have hr := run_append_grow (P := P) w t ty e i z ht hi hz ⟨g, 0, none⟩ n cap xs (by rw [hsz]; exact hown.1) holds ad m c news hnl hc (by omega) (by omega) (by rw [hb1, Nat.mul_one]; have := nextcap_near (show cap < n + m by omega); omega)
     exact ⟨_, _, hr, grown cap, hk _ (keep _ cap) (run_drawn _ _ _ _ hr), .inr rfl⟩
variable {o : Oper} {ρ : Slots} {Γ : List Chunk} {x y : Operand}
theorem Ge.appendBig {α : Type} {enc : α → List Value} (E : Enc enc 1) {t e : TypeId} {zs : List Value} {A B : Option Addr} {cap cb i : Nat} {l m : List α} (ho : o.op = .call { callee := .builtin .append, args := #[x, y], argTypes := #[t, t] }) (ht : SliceTy P t e 1 1 zs)
    (hx : ev ρ x = some (.slice A l.length cap)) (hy : ev ρ y = some (.slice B m.length cb)) (hi : Γ[i]? = some (rows enc e 1 A cap l)) (hsrc : ∀ w, sat Γ w → Src w B (m.flatMap enc)) (hbig : l.length + m.length ≤ 150000000000000) :
    Ge P o ρ Γ (fun v Γ' => ∃ A' cap', v = .slice A' (l ++ m).length cap' ∧ Γ' = Γ.set i (rows enc e 1 A' cap' (l ++ m))) := fun a w ha hs => by
 obtain ⟨it, zv, h2, h3, h4, h5, h6⟩ := ht.inf
 have hrow : w.ownsRow 0 e 1 (.slice A l.length cap) l.length (l.flatMap enc) := hs.each _ (mog hi)
 obtain ⟨v', w', hrun, h7, h8, h9⟩ := run_append_big (P := P) w t o.type e it zv ht.und h2 h3 h4 h5 (by rw [h6]; simpa using ht.len) _ l.length (l.flatMap enc) hrow B m.length cb (m.flatMap enc) (by rw [E.flat_len, Nat.mul_one]) (hsrc w hs) (E.flat_one m) hbig
 have h7' : w'.ownsRow 0 e 1 v' (l ++ m).length ((l ++ m).flatMap enc) := by rw [lap, List.flatMap_append]; exact h7
 obtain ⟨A', cap', rfl, _⟩ := own_form h7'
 have hb : ∀ g, g ∈ blks A' → g ∈ blks A ∨ g = w.heap.size := fun g hg => by
  obtain ⟨ad, rfl, rfl⟩ := mem_blks.1 hg
  rcases h9 with h9 | h9
  · refine .inl (mem_blks.2 ?_)
    cases A with
    | none => simp [Value.ownBlock] at h9
    | some a' => simp [Value.ownBlock] at h9; exact ⟨a', rfl, h9.symm⟩
  · simp [Value.ownBlock] at h9; exact .inr h9
 refine ⟨_, _, w', ?_, ⟨A', cap', rfl, rfl⟩, Post.set hi hs ⟨⟨fun c hc => by rw [List.mem_singleton.1 hc]; exact h7', ?_, by simp [reads, rows, row]⟩, ?_, ?_, by simp [reads, rows, row]⟩⟩
 · unfold execOp
   simp only [ho, resolve, invoke, builtin, Sem.run_bind, Sem.run_pure, Result.andThen_ok, List.map_toArray, List.map_cons, List.map_nil, ha.eval hx, ha.eval hy, hrun]
 · cases A' <;> simp [owns, rows, row, blks]
 · refine h8.mono fun g _ hg => ?_
   cases A with
   | none => simp [Value.ownBlock] at hg
   | some a' => simp [Value.ownBlock] at hg; simp [owns, rows, row, blks, hg]
 · intro g hg hl
   have hg' : g ∈ blks A' := by simpa [owns, rows, row] using hg
   rcases hb g hg' with h | h
   · simpa [owns, rows, row] using h
   · omega
end
end Go.Sep
