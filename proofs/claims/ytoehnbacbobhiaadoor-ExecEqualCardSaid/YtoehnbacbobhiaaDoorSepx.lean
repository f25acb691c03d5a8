/- Rows of elements, and the steps as the printed walks take them. Own text. -/
import Derived.Test.YtoehnbacbobhiaaDoorSepf
namespace Go.Sep
open Go.RowKit Go.Flow Go.Mem

/-! ### rows of elements -/
structure Enc {α : Type} (enc : α → List Value) (size : Nat) : Prop where
  len : ∀ x, (enc x).length = size
  one : ∀ x, ∀ u ∈ enc x, u.oneCell' = true
section
variable {α : Type} {enc : α → List Value} {size : Nat}
theorem Enc.flat_len (E : Enc enc size) : ∀ l : List α, (l.flatMap enc).length = l.length * size
  | [] => by simp
  | x :: l => by rw [List.flatMap_cons, List.length_append, E.len, E.flat_len l, List.length_cons, Nat.add_mul]; omega
theorem Enc.flat_one (E : Enc enc size) (l : List α) : ∀ u ∈ l.flatMap enc, u.oneCell' = true := fun u hu => by
  obtain ⟨x, _, h⟩ := List.mem_flatMap.1 hu
  exact E.one x u h
def rows (enc : α → List Value) (e : TypeId) (size : Nat) (A : Option Addr) (cap : Nat) (l : List α) : Chunk := row e size A l.length cap (l.flatMap enc)
def ros (enc : α → List Value) (A : Option Addr) (l : List α) : Chunk := ro A (l.flatMap enc)
theorem rows_gives (E : Enc enc size) {e : TypeId} {A : Option Addr} {cap j : Nat} {l : List α} {y : α} (h : l[j]? = some y) : (rows enc e size A cap l).gives (blk A) (ofs A + j * size) (enc y) := row_gives (sub_flat E.len h)
theorem ros_gives (E : Enc enc size) {A : Option Addr} {j : Nat} {l : List α} {y : α} (h : l[j]? = some y) : (ros enc A l).gives (blk A) (ofs A + j * size) (enc y) := ro_gives (sub_flat E.len h)
theorem gives_at {c : Chunk} {b off : Nat} {us : List Value} (h : c.gives b off us) {f : Nat} {u : Value} (hu : us[f]? = some u) : c.gives b (off + f) [u] := fun w hw j v hv => by
  cases j with
  | zero => simp only [List.getElem?_cons_zero, Option.some.injEq] at hv; subst hv; exact h w hw f u hu
  | succ j => simp at hv
/-- One element of one cell. -/
theorem gives_1 {c : Chunk} {b off : Nat} {us : List Value} (h : c.gives b off us) {u : Value} (hu : us = [u]) : c.gives b off [u] := by rw [← hu]; exact h
end
theorem box_whole {b : Nat} {cs : List Value} {t : TypeId} : (box b cs t).gives b 0 cs := fun _ hw => range_of_whole hw
theorem box_takesAll {b : Nat} {cs us : List Value} {t : TypeId} (hl : us.length = cs.length) : (box b cs t).takes b 0 us (box b us t) := box_takes (by rw [Nat.zero_add, hl]; exact Nat.ble_self_eq_true _) (by unfold over; rw [List.take_zero, Nat.zero_add, hl]; simp)
theorem box_takes1 {b off : Nat} {cs : List Value} {u : Value} {t : TypeId} (hl : Nat.blt off cs.length = true) : (box b cs t).takes b off [u] (box b (cs.set off u) t) := box_takes hl (by
  have := Nat.le_of_ble_eq_true hl
  unfold over
  rw [List.set_eq_take_append_cons_drop, if_pos (by omega)]; simp)
section
variable {P : Program} {o : Oper} {ρ : Slots} {Γ : List Chunk} {x y : Operand} {C : Cx} {ops : Array Oper} {Q : Exit → Act → World → Prop} {rest : List Oper} {v : Value} {d : Nat}
variable {α : Type} {enc : α → List Value} {size : Nat}
theorem Rd.indexRows {t e ie : TypeId} {bytes : Nat} {zs : List Value} {A : Option Addr} {cap j i : Nat} {l : List α} {k : IntKind} {el : α} (ho : o.op = .indexAddr t x y) (hx : ev ρ x = some (.slice A l.length cap)) (hy : ev ρ y = some (.int k j)) (ht : SliceTy P t e size bytes zs)
    (hi : Γ[i]? = some (rows enc ie size A cap l)) (hj : l[j]? = some el) : Rd P o ρ Γ (.pointer (some ⟨blk A, ofs A + j * size, none⟩)) := Rd.indexRow ho hx hy ht hi (List.getElem?_eq_some_iff.1 hj).1
theorem Rd.indexRos (E : Enc enc size) {t e : TypeId} {bytes : Nat} {zs : List Value} {A : Option Addr} {cap j i : Nat} {l : List α} {k : IntKind} {el : α} (ho : o.op = .indexAddr t x y) (hx : ev ρ x = some (.slice A l.length cap)) (hy : ev ρ y = some (.int k j)) (ht : SliceTy P t e size bytes zs)
    (hi : Γ[i]? = some (ros enc A l)) (hj : l[j]? = some el) : Rd P o ρ Γ (.pointer (some ⟨blk A, ofs A + j * size, none⟩)) := Rd.indexRo ho hx hy ht hi (List.getElem?_eq_some_iff.1 hj).1 (E.flat_len l).symm
/-- append(s, y), s a row of elements of one's own. -/
theorem Ge.append1 (E : Enc enc size) {t e : TypeId} {bytes : Nat} {zs us : List Value} {A B : Option Addr} {cap cb i j : Nat} {l : List α} {el : α} (ho : o.op = .call { callee := .builtin .append, args := #[x, y], argTypes := #[t, t] }) (ht : SliceTy P t e size bytes zs)
    (hx : ev ρ x = some (.slice A l.length cap)) (hy : ev ρ y = some (.slice B 1 cb)) (hi : Γ[i]? = some (rows enc e size A cap l)) (hj : Γ[j]? = some (row e size B 1 cb us)) (hu : enc el = us) (h63 : l.length < 9223372036854775807) (hby : (l.length + 1) * bytes ≤ 140737488355328) :
    Ge P o ρ Γ (fun v Γ' => ∃ A' cap', v = .slice A' (l ++ [el]).length cap' ∧ Γ' = Γ.set i (rows enc e size A' cap' (l ++ [el]))) := by
  have h := Ge.append (P := P) ho ht hx hy hi (src_row hj) (by rw [← hu, E.len]; simp) (fun u h => E.one el u (hu ▸ h)) (by simp only [maxLen]; omega) hby
  intro a w ha hs
  obtain ⟨v, Γ', w', h1, ⟨A', cap', h2, h3⟩, h4⟩ := h a w ha hs
  refine ⟨v, Γ', w', h1, ⟨A', cap', by rw [h2]; simp, ?_⟩, h4⟩
  rw [h3]
  have e1 : rows enc e size A' cap' (l ++ [el]) = row e size A' (l.length + 1) cap' (l.flatMap enc ++ us) := by simp [rows, hu]
  rw [e1]
/-- append(s, t...): of elements. -/
theorem Ge.appendL (E : Enc enc size) {t e : TypeId} {bytes : Nat} {zs : List Value} {A B : Option Addr} {cap cb i : Nat} {l m : List α} (ho : o.op = .call { callee := .builtin .append, args := #[x, y], argTypes := #[t, t] }) (ht : SliceTy P t e size bytes zs)
    (hx : ev ρ x = some (.slice A l.length cap)) (hy : ev ρ y = some (.slice B m.length cb)) (hi : Γ[i]? = some (rows enc e size A cap l)) (hs : ∀ w, sat Γ w → Src w B (m.flatMap enc)) (h63 : l.length + m.length ≤ 9223372036854775807) (hby : (l.length + m.length) * bytes ≤ 140737488355328) :
    Ge P o ρ Γ (fun v Γ' => ∃ A' cap', v = .slice A' (l ++ m).length cap' ∧ Γ' = Γ.set i (rows enc e size A' cap' (l ++ m))) := by
  have h := Ge.append (P := P) ho ht hx hy hi hs (E.flat_len m) (E.flat_one m) (by simp only [maxLen]; omega) hby
  intro a w ha hs
  obtain ⟨v, Γ', w', h1, ⟨A', cap', h2, h3⟩, h4⟩ := h a w ha hs
  refine ⟨v, Γ', w', h1, ⟨A', cap', by rw [h2]; simp, ?_⟩, h4⟩
  rw [h3]
  have e1 : rows enc e size A' cap' (l ++ m) = row e size A' (l.length + m.length) cap' (l.flatMap enc ++ m.flatMap enc) := by simp [rows]
  rw [e1]
theorem To.alloc {ty : TypeId} {zs : List Value} (hg : grd ops ρ o = some true) (hd : o.dst = some d) (hn : Nat.blt d C.n = true) (ho : o.op = .alloc ty) (hz : ZeroTy P ty zs) (k : ∀ b, To C ((d, .pointer (some ⟨b, 0, none⟩)) :: ρ) (box b zs ty :: Γ) (wpList P ops Q rest)) : To C ρ Γ (wpList P ops Q (o :: rest)) :=
  To.mk hg hd hn (Mk.alloc ho hz) fun _ _ ⟨b, h1, h2⟩ => by subst h1 h2; exact k b
theorem To.boxed {ty : TypeId} {u : Value} {us : List Value} (hg : grd ops ρ o = some true) (hd : o.dst = some d) (hn : Nat.blt d C.n = true) (ho : o.op = .box ty x) (hx : ev ρ x = some u) (hu : u.cells = us.toArray) (k : ∀ b, To C ((d, .pointer (some ⟨b, 0, none⟩)) :: ρ) (box b us ty :: Γ) (wpList P ops Q rest)) : To C ρ Γ (wpList P ops Q (o :: rest)) :=
  To.mk hg hd hn (Mk.box ho hx hu) fun _ _ ⟨b, h1, h2⟩ => by subst h1 h2; exact k b
/-- A call whose result is a value alone. -/
theorem To.callV {f : FuncId} {vs : List Value} {Γ1 : List Chunk} (hg : grd ops ρ o = some true) (hd : o.dst = some d) (hn : Nat.blt d C.n = true) (he : Ent P o ρ f vs) (hc : Does P f vs Γ1 (fun v' _ => v' = v)) (hq : owns Γ1 = []) (hs : ∀ w, oks Γ w → oks Γ1 w)
    (k : To C ((d, v) :: ρ) Γ (wpList P ops Q rest)) : To C ρ Γ (wpList P ops Q (o :: rest)) :=
  To.callQ (R := fun v' Γ' => v' = v ∧ Γ' = []) hg hd hn he (fun w hw => (hc w hw).mono fun e w' ⟨v', Γ', h1, h2, h3⟩ => ⟨v', [], h1, ⟨h2, rfl⟩, Post.drop (Γ' := []) h3⟩) hq hs fun v' Γ' ⟨h1, h2⟩ => by subst h1 h2; exact ⟨rfl, k⟩
end
/-- Chunks that stand among others. -/
theorem oks_nil (Γ : List Chunk) : ∀ w, oks Γ w → oks [] w := fun _ _ c hc => by simp at hc
theorem oks_cons {Γ Θ : List Chunk} {c : Chunk} (h1 : ∀ w, oks Γ w → c.holds w) (h2 : ∀ w, oks Γ w → oks Θ w) : ∀ w, oks Γ w → oks (c :: Θ) w := fun w hw x hx => by
  rcases List.mem_cons.1 hx with rfl | h
  · exact h1 w hw
  · exact h2 w hw x h
theorem oks_at {Γ : List Chunk} {c : Chunk} (i : Nat) (h : Γ[i]? = some c) : ∀ w, oks Γ w → c.holds w := fun _ hw => hw c (List.mem_of_getElem? h)
/-- A row of one's own may be read. -/
theorem oks_row {Γ : List Chunk} {e : TypeId} {size : Nat} {A : Option Addr} {n cap : Nat} {xs : List Value} (i : Nat) (h : Γ[i]? = some (row e size A n cap xs)) : ∀ w, oks Γ w → (ro A xs).holds w := fun w hw => by
  obtain ⟨A', cap', h1, h2, _⟩ := own_form (show w.ownsRow 0 e size (.slice A n cap) n xs from hw _ (List.mem_of_getElem? h))
  simp only [Value.slice.injEq] at h1
  show Src w A xs
  rw [h1.1]; exact h2
theorem Does.pure {P : Program} {f : FuncId} {args : List Value} {v : Value} (h : ∀ w, Calls P f args.toArray w fun e w' => e = .returned v ∧ Ext w w') : Does P f args [] (fun v' _ => v' = v) := fun w _ =>
  (h w).mono fun e w' ⟨h1, h2⟩ => ⟨v, [], h1, rfl, sat.nil _, Keeps.of_ext h2, by simp [owns], by simp [reads]⟩
end Go.Sep
namespace Go.Sep
open Go.RowKit Go.Flow Go.Mem
section
variable {P : Program} {o : Oper} {ρ : Slots} {Γ : List Chunk} {C : Cx} {ops : Array Oper} {Q : Exit → Act → World → Prop} {rest : List Oper} {d : Nat}
/-- A test, parted at once. -/
theorem To.rdB {t : Bool} (hg : grd ops ρ o = some true) (hd : o.dst = some d) (hn : Nat.blt d C.n = true) (h : Rd P o ρ Γ (.bool t)) (h1 : t = true → To C ((d, .bool true) :: ρ) Γ (wpList P ops Q rest)) (h2 : t = false → To C ((d, .bool false) :: ρ) Γ (wpList P ops Q rest)) : To C ρ Γ (wpList P ops Q (o :: rest)) := by
  cases t
  · exact To.rd hg hd hn h (h2 rfl)
  · exact To.rd hg hd hn h (h1 rfl)
theorem To.rdP {p : Prop} [Decidable p] (hg : grd ops ρ o = some true) (hd : o.dst = some d) (hn : Nat.blt d C.n = true) (h : Rd P o ρ Γ (.bool (decide p))) (h1 : p → To C ((d, .bool true) :: ρ) Γ (wpList P ops Q rest)) (h2 : ¬ p → To C ((d, .bool false) :: ρ) Γ (wpList P ops Q rest)) : To C ρ Γ (wpList P ops Q (o :: rest)) :=
  To.rdB hg hd hn h (fun e => h1 (of_decide_eq_true e)) (fun e => h2 (of_decide_eq_false e))
theorem FlowS.rdB {l : List Oper} {Θ : List Chunk} {K : Act → World → Prop} {ms : List Meta} {N : News} {i : Nat} {deps : List Nat} {t : Bool} (ho : l[i]? = some o) (hg : grd l.toArray ρ o = some true) (hd : o.dst = some d) (hn : Nat.blt d C.n = true) (h : Rd P o ρ Θ (.bool t)) (h1 : t = true → FlowS P l Θ K ms C ((d, .bool true) :: ρ) Γ N) (h2 : t = false → FlowS P l Θ K ms C ((d, .bool false) :: ρ) Γ N) : FlowS P l Θ K (⟨i, deps, 0⟩ :: ms) C ρ Γ N := by
  cases t
  · exact FlowS.free ho hg hd hn h (h2 rfl)
  · exact FlowS.free ho hg hd hn h (h1 rfl)
theorem FlowS.rdP {l : List Oper} {Θ : List Chunk} {K : Act → World → Prop} {ms : List Meta} {N : News} {i : Nat} {deps : List Nat} {p : Prop} [Decidable p] (ho : l[i]? = some o) (hg : grd l.toArray ρ o = some true) (hd : o.dst = some d) (hn : Nat.blt d C.n = true) (h : Rd P o ρ Θ (.bool (decide p))) (h1 : p → FlowS P l Θ K ms C ((d, .bool true) :: ρ) Γ N) (h2 : ¬ p → FlowS P l Θ K ms C ((d, .bool false) :: ρ) Γ N) : FlowS P l Θ K (⟨i, deps, 0⟩ :: ms) C ρ Γ N :=
  FlowS.rdB ho hg hd hn h (fun e => h1 (of_decide_eq_true e)) (fun e => h2 (of_decide_eq_false e))
/-- Ways that meet again behind a region. -/
theorem To.meet {T : Type} {K : Act → World → Prop} {l : List Oper} (F : T → Slots × List Chunk) (p : T → Prop) (h : To C ρ Γ (wpList P ops (Exit.then (fun a w => ∃ t, p t ∧ Has C.n C.ds (F t).1 a ∧ Post C.Γ0 (F t).2 C.w0 w) Q) l)) (k : ∀ t, p t → To C (F t).1 (F t).2 K) : To C ρ Γ (wpList P ops (Exit.then K Q) l) := by
  have mono : ∀ (l : List Oper) (a : Act) (w : World), wpList P ops (Exit.then (fun a w => ∃ t, p t ∧ Has C.n C.ds (F t).1 a ∧ Post C.Γ0 (F t).2 C.w0 w) Q) l a w → wpList P ops (Exit.then K Q) l a w := by
    intro l
    have hq : ∀ e a w, Exit.then (fun a w => ∃ t, p t ∧ Has C.n C.ds (F t).1 a ∧ Post C.Γ0 (F t).2 C.w0 w) Q e a w → Exit.then K Q e a w := fun e a w hq => by
      cases e with
      | normal => obtain ⟨t, h1, h2, h3⟩ := hq; exact k t h1 a w h2 h3
      | exit id => exact hq
      | goto l => exact hq
      | ret => exact hq
      | panic ch => exact hq
      | outgrown => exact hq
    induction l with
    | nil => exact fun a w h => hq .normal a w h
    | cons o l ih =>
      intro a w h
      unfold wpList at h ⊢
      split
      · rename_i hw
        rw [if_pos hw] at h
        rcases h with h | ⟨h1, a0, w0, h2⟩
        · left
          unfold Oper.wp at h ⊢
          generalize (execOp a.eval o).run P w = r at h ⊢
          cases r with
          | ok nx w' =>
            cases nx <;> first
              | exact ih _ _ h
              | exact Calls.mono h fun e w' h' => by
                  cases e with
                  | returned v => exact ih _ _ h'
                  | panicked c => exact h'
                  | outgrown => exact h'
              | exact Rows.mono h fun _ _ h' => ih _ _ h'
              | exact h.elim
          | halt hl w' => cases hl <;> first | exact h | exact h.elim
        · exact .inr ⟨h1, a0, w0, h2⟩
      · rename_i hw
        rw [if_neg hw] at h
        exact ih _ _ h
  exact fun a w ha hp => mono l a w (h a w ha hp)
end
end Go.Sep
namespace Go.Sep
open Go.RowKit Go.Flow Go.Mem
/-- A result that lies in a box; some of the chunks are handed back. -/
theorem To.endC {P : Program} {C : Cx} {ρ : Slots} {Γ Δ E : List Chunk} {R : Value → List Chunk → Prop} {fn : Func} {ex : Exit} {t b n i : Nat} {ty ty' : TypeId} {cs : List Value} (is : List Nat) (hpl : pull Γ is = some (Δ, E)) (hex : ex = .ret ∨ ex = .normal) (hres : fn.results = #[.cell t ty]) (hv : look ρ t = some (.pointer (some ⟨b, 0, none⟩)))
    (hi : Γ[i]? = some (box b cs ty')) (ht : RowTy P ty n) (hl : cs.length = n) (h : R (.agg cs.toArray) Δ) (hds : C.ds = [] := by rfl) : To C ρ Γ (bodyPost P fn (Fin C R) ex) := fun a w ha hp => by
  have hr : (results fn a.tmps).run P w = .ok (.agg cs.toArray) w := by
    obtain ⟨d, h1, h2, h3⟩ := ht
    have hw := hp.sat.each _ (List.mem_of_getElem? hi)
    have := run_loadVar_mid (P := P) w b 0 ty cs d (range_of_whole hw) h1 h2 (by rw [hl]; exact h3)
    have he : a.tmps[t]?.getD undef = .pointer (some ⟨b, 0, none⟩) := by rw [ha.sees t _ hv]; rfl
    simp [results, hres, he, asAddr, this]
  have hq : Post C.Γ0 Δ C.w0 w := (hp.perm (pull_perm hpl)).drop
  rcases hex with rfl | rfl
  · exact ⟨ha.defers.trans hds, _, hr, _, Δ, rfl, h, hq⟩
  · exact ⟨ha.defers.trans hds, _, hr, _, Δ, rfl, h, hq⟩
end Go.Sep
namespace Go.Sep
open Go.RowKit Go.Flow Go.Mem
section
variable {P : Program} {o : Oper} {ρ : Slots} {Γ : List Chunk} {x y : Operand} {C : Cx} {K : Act → World → Prop}
theorem Rd.rem {k : IntKind} {m n : Int} {t t' : TypeId} (ho : o.op = .binOp .rem t x y t') (hx : ev ρ x = some (.int k m)) (hy : ev ρ y = some (.int k n)) (h0 : 0 ≤ m) (h1 : 0 < n) : Rd P o ρ Γ (.int k (m % n)) := Rd.bin ho hx hy fun w => by
  have h2 : n ≠ 0 := by omega
  simp [eqGuard, binOp, Op.intDiv, h2, Int.tmod_eq_emod_of_nonneg h0]
theorem Rd.quo64 {m n : Int} {t t' : TypeId} (ho : o.op = .binOp .quo t x y t') (hx : ev ρ x = some (.int .i64 m)) (hy : ev ρ y = some (.int .i64 n)) (h0 : 0 ≤ m) (h1 : 0 < n) (h3 : m ≤ 9223372036854775807) : Rd P o ρ Γ (.int .i64 (m / n)) := Rd.bin ho hx hy fun w => by
  have h2 : n ≠ 0 := by omega
  have h4 : m / n ≤ m := Int.ediv_le_self _ h0
  have h5 : 0 ≤ m / n := Int.ediv_nonneg h0 (by omega)
  simp [eqGuard, binOp, Op.intDiv, h2, Int.tdiv_eq_ediv_of_nonneg h0, IntWalk.i64_in (m / n) (by omega)]
/-- A chunk that owns and reads nothing and always holds. -/
theorem To.free {c : Chunk} (h1 : c.owns = []) (h2 : c.reads = []) (h3 : ∀ w, c.holds w) (k : To C ρ (c :: Γ) K) : To C ρ Γ K := fun a w ha hq => by
  have e1 : owns (c :: Γ) = owns Γ := by simp [owns, h1]
  have e2 : reads (c :: Γ) = reads Γ := by simp [reads, h2]
  refine k a w ha ⟨⟨fun x hx => ?_, by rw [e1]; exact hq.sat.nodup, by rw [e1, e2]; exact hq.sat.apart⟩, hq.keeps, by rw [e1]; exact hq.own, by rw [e2]; exact hq.rd⟩
  rcases List.mem_cons.1 hx with rfl | h
  · exact h3 w
  · exact hq.sat.each x h
theorem To.nilRow {α : Type} (enc : α → List Value) (e : TypeId) (size : Nat) (k : To C ρ (rows enc e size none 0 [] :: Γ) K) : To C ρ Γ K := To.free (c := rows enc e size none 0 []) rfl rfl (fun w => World.ownsRow_nil w 0 e size) k
/-- What one owns may be laid down to be read only: chunk for chunk. -/
theorem To.lay {Γ' : List Chunk} (h1 : ∀ w, sat Γ w → oks Γ' w) (h2 : owns Γ' = []) (h3 : ∀ g ∈ reads Γ', g ∈ owns Γ ∨ g ∈ reads Γ) {Δ : List Chunk} (k : To C ρ (Γ' ++ Δ) K) : To C ρ (Γ ++ Δ) K := fun a w ha hq => by
  refine k a w ha (hq.trans (Post.frame hq.sat ⟨⟨h1 w hq.sat.left, by rw [h2]; simp, fun g _ => by rw [h2]; simp⟩, Keeps.refl _ _, fun g hg => by rw [h2] at hg; simp at hg, fun g hg _ => h3 g hg⟩))
end
end Go.Sep
namespace Go.Sep
open Go.RowKit Go.Flow Go.Mem
/-- More that may be read. -/
theorem To.derive {C : Cx} {ρ : Slots} {Γ : List Chunk} {K : Act → World → Prop} (c : Chunk) (h1 : c.owns = []) (h2 : ∀ g ∈ c.reads, g ∈ reads Γ) (h3 : ∀ w, oks Γ w → c.holds w) (k : To C ρ (c :: Γ) K) : To C ρ Γ K := fun a w ha hq => by
  have e1 : owns (c :: Γ) = owns Γ := by simp [owns, h1]
  have e2 : ∀ g ∈ reads (c :: Γ), g ∈ reads Γ := fun g hg => by
    have : g ∈ c.reads ∨ g ∈ reads Γ := by simpa [reads] using hg
    exact this.elim (h2 g) id
  refine k a w ha ⟨⟨fun x hx => ?_, by rw [e1]; exact hq.sat.nodup, fun g hg => by rw [e1]; exact hq.sat.apart g (e2 g hg)⟩, hq.keeps, by rw [e1]; exact hq.own, fun g hg => hq.rd g (e2 g hg)⟩
  rcases List.mem_cons.1 hx with rfl | h
  · exact h3 w hq.sat.each
  · exact hq.sat.each x h
theorem reads_at {Γ : List Chunk} {c : Chunk} (i : Nat) (hi : Γ[i]? = some c) {g : Nat} (hg : g ∈ c.reads) : g ∈ reads Γ := mem_reads.2 ⟨c, List.mem_of_getElem? hi, hg⟩
/-- A row of one's own is laid down to be read. -/
theorem To.layRow {C : Cx} {ρ : Slots} {Γ : List Chunk} {K : Act → World → Prop} {α : Type} {enc : α → List Value} {e : TypeId} {size : Nat} {A : Option Addr} {cap : Nat} {l : List α} (k : To C ρ (ros enc A l :: Γ) K) : To C ρ (rows enc e size A cap l :: Γ) K :=
  To.lay (Γ := [rows enc e size A cap l]) (Γ' := [ros enc A l]) (fun w hs c hc => by
    rw [List.mem_singleton.1 hc]
    exact oks_row (Γ := [rows enc e size A cap l]) 0 rfl w hs.each) rfl (fun g hg => by
    refine .inl ?_
    have h1 : g ∈ rblks A (l.flatMap enc) := by simpa [reads, ros, ro] using hg
    have h2 : g ∈ blks A := by
      cases h : l.flatMap enc with
      | nil => rw [h] at h1; simp [rblks] at h1
      | cons x xs => rw [h] at h1; exact h1
    simpa [owns, rows, row] using h2) k
/-- The chunk in front is put elsewhere. -/
theorem To.front {C : Cx} {ρ : Slots} {Γ : List Chunk} {K : Act → World → Prop} {c : Chunk} (i : Nat) (hi : Γ[i]? = some c) (k : To C ρ (c :: Γ.eraseIdx i) K) : To C ρ Γ K := To.perm (perm_eraseIdx hi) k
end Go.Sep
