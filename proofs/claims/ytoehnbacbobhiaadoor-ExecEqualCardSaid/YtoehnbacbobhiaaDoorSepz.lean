/- Whole numbers that wrap round, families of rows that are read, rows cut short, letters sought in words. Own text. -/
import Derived.Test.YtoehnbacbobhiaaDoorSepw
import Derived.Lib.Bytealg
import Derived.ProofKit
import Derived.Laws.Externs
namespace Go.Sep
open Go.RowKit Go.Flow Go.Mem
section
variable {P : Program} {o : Oper} {ρ : Slots} {Γ : List Chunk} {x y : Operand} {C : Cx} {K : Act → World → Prop} {t t' : TypeId} {m n : Int}
abbrev W64 (n : Int) : Int := IntKind.i64.wrap n
theorem Rd.addW (ho : o.op = .binOp .add t x y t') (hx : ev ρ x = some (.int .i64 m)) (hy : ev ρ y = some (.int .i64 n)) : Rd P o ρ Γ (.int .i64 (W64 (m + n))) := Rd.bin ho hx hy fun w => by simp [eqGuard, binOp, Op.intArith]
theorem Rd.subW (ho : o.op = .binOp .sub t x y t') (hx : ev ρ x = some (.int .i64 m)) (hy : ev ρ y = some (.int .i64 n)) : Rd P o ρ Γ (.int .i64 (W64 (m - n))) := Rd.bin ho hx hy fun w => by simp [eqGuard, binOp, Op.intArith]
theorem Rd.mulW (ho : o.op = .binOp .mul t x y t') (hx : ev ρ x = some (.int .i64 m)) (hy : ev ρ y = some (.int .i64 n)) : Rd P o ρ Γ (.int .i64 (W64 (m * n))) := Rd.bin ho hx hy fun w => by simp [eqGuard, binOp, Op.intArith]
theorem Rd.quoW (ho : o.op = .binOp .quo t x y t') (hx : ev ρ x = some (.int .i64 m)) (hy : ev ρ y = some (.int .i64 n)) (h : n ≠ 0) : Rd P o ρ Γ (.int .i64 (W64 (m.tdiv n))) := Rd.bin ho hx hy fun w => by simp [eqGuard, binOp, Op.intDiv, h]
theorem Rd.remW (ho : o.op = .binOp .rem t x y t') (hx : ev ρ x = some (.int .i64 m)) (hy : ev ρ y = some (.int .i64 n)) (h : n ≠ 0) : Rd P o ρ Γ (.int .i64 (m.tmod n)) := Rd.bin ho hx hy fun w => by simp [eqGuard, binOp, Op.intDiv, h]
theorem Rd.negW (ho : o.op = .unOp .neg t x) (hx : ev ρ x = some (.int .i64 m)) : Rd P o ρ Γ (.int .i64 (W64 (-m))) := fun a w ha _ => by
  unfold execOp; simp [ho, ha.eval hx, Op.unary, Op.intArith]
theorem Rd.fieldV {f : Nat} {fs : Array Field} {fd : Field} {vs : List Value} {v : Value} {d : TypeDesc} (ho : o.op = .field t x f) (ht : P.underlying t = some (.struct fs)) (hf : fs[f]? = some fd) (hd : P.underlying fd.type = some d) (hr : d.isRow = false) (hx : ev ρ x = some (.agg vs.toArray)) (hv : vs[fd.offset]? = some v) : Rd P o ρ Γ v := fun a w ha _ => by
  unfold execOp
  have h1 : (isAgg fd.type).run P w = .ok false w := by
    cases d <;> simp_all [isAgg, run_underlying hd, TypeDesc.isRow]
  simp [ho, ha.eval hx, Instr.field, run_underlying ht, hf, asAgg, part, h1, hv]
theorem Rd.max3 {k : IntKind} {z : Operand} {m n l : Int} {t u s : TypeId} (ho : o.op = .call { callee := .builtin .max, args := #[x, y, z], argTypes := #[t, u, s] }) (hx : ev ρ x = some (.int k m)) (hy : ev ρ y = some (.int k n)) (hz : ev ρ z = some (.int k l)) : Rd P o ρ Γ (.int k (max (max m n) l)) := fun a w ha _ => by
  unfold execOp
  have e1 : (if m < n then n else m) = Max.max m n := by omega
  have e2 : (if Max.max m n < l then l else Max.max m n) = Max.max (Max.max m n) l := by omega
  simp [ho, resolve, invoke, builtin, ha.eval hx, ha.eval hy, ha.eval hz, Builtin.max_, Builtin.max2, e1, e2]
/-- A letter sought in a word. -/
theorem Rd.indexByte {f : FuncId} {ts : Array TypeId} {fn : Func} {s : ByteArray} {c : Int} (ho : o.op = .call { callee := .value (.func f), args := #[x, y], argTypes := ts }) (hf : P.funcs[f]? = some fn) (h1 : (fn.name == "runtime.NumGoroutine") = false) (h2 : fn.body.isNone = true) (h3 : Extern.findNext fn = none) (h4 : Extern.find fn = some Extern.BytealgIndexByte.indexByte)
    (hx : ev ρ x = some (.string s)) (hy : ev ρ y = some (.int .u8 c)) : Rd P o ρ Γ (.int .i64 (Lib.indexByte s.data.toList c.toNat.toUInt8)) := fun a w ha _ => by
  unfold execOp
  simp [ho, resolve, show a.eval (.func f) = .func (.func f) #[] #[] from rfl, ha.eval hx, ha.eval hy, Deferred.ofValue, invoke, run_callFunc_extern hf h1 h2 h3 h4, Lib.run_indexByteString, Result.andThen]
end
/-! ### families of rows that are only read -/
section
variable {α : Type} {enc : α → List Value}
def rosS (enc : α → List Value) (l : List (Option Addr × List α)) : Chunk where
  owns := []
  reads := l.flatMap fun p => (ros enc p.1 p.2).reads
  holds w := ∀ p ∈ l, (ros enc p.1 p.2).holds w
  loc w w' h hw p hp := (ros enc p.1 p.2).loc w w' (fun g hg => h g (.inr (List.mem_flatMap.2 ⟨p, hp, by simpa [ros, ro] using hg⟩))) (hw p hp)
  lt w hw g hg := by
    simp only [List.not_mem_nil, false_or] at hg
    obtain ⟨p, hp, hg⟩ := List.mem_flatMap.1 hg
    exact (ros enc p.1 p.2).lt w (hw p hp) g (.inr hg)
theorem oks_S {Γ : List Chunk} {l : List (Option Addr × List α)} (i : Nat) (h : Γ[i]? = some (rosS enc l)) {A : Option Addr} {xs : List α} (hp : (A, xs) ∈ l) : ∀ w, oks Γ w → (ros enc A xs).holds w := fun _ hw => hw _ (List.mem_of_getElem? h) _ hp
variable {C : Cx} {ρ : Slots} {Γ : List Chunk} {K : Act → World → Prop}
theorem reads_of {Γ : List Chunk} {c : Chunk} (i : Nat) (h : Γ[i]? = some c) {g : Nat} (hg : g ∈ c.reads) : g ∈ reads Γ := mem_reads.2 ⟨c, List.mem_of_getElem? h, hg⟩
/-- One of the family by itself. -/
theorem To.oneS {l : List (Option Addr × List α)} {A : Option Addr} {xs : List α} (i : Nat) (h : Γ[i]? = some (rosS enc l)) (hp : (A, xs) ∈ l) (k : To C ρ (ros enc A xs :: Γ) K) : To C ρ Γ K :=
  To.derive (ros enc A xs) rfl (fun _ hg => reads_of i h (List.mem_flatMap.2 ⟨(A, xs), hp, hg⟩)) (fun w hw => hw _ (List.mem_of_getElem? h) _ hp) k
/-- A family out of another one and single rows. -/
theorem To.famS {l : List (Option Addr × List α)} (l' : List (Option Addr × List α)) (i : Nat) (h : Γ[i]? = some (rosS enc l)) (hs : ∀ p ∈ l', p ∈ l ∨ ros enc p.1 p.2 ∈ Γ) (k : To C ρ (rosS enc l' :: Γ) K) : To C ρ Γ K :=
  To.derive (rosS enc l') rfl (fun g hg => by
    obtain ⟨p, hp, hg⟩ := List.mem_flatMap.1 hg
    rcases hs p hp with h1 | h1
    · exact reads_of i h (List.mem_flatMap.2 ⟨p, h1, hg⟩)
    · exact mem_reads.2 ⟨_, h1, hg⟩) (fun w hw p hp => by
    rcases hs p hp with h1 | h1
    · exact hw _ (List.mem_of_getElem? h) _ h1
    · exact hw _ h1) k
theorem To.nilS (k : To C ρ (rosS enc [] :: Γ) K) : To C ρ Γ K := To.free (c := rosS enc []) rfl rfl (fun w p hp => by simp at hp) k
/-- A row cut short. -/
theorem To.shrink {e : TypeId} {size : Nat} {A : Option Addr} {cap : Nat} {l : List α} (E : Enc enc size) (n : Nat) (hn : n ≤ l.length) (k : To C ρ (rows enc e size A cap (l.take n) :: Γ) K) : To C ρ (rows enc e size A cap l :: Γ) K := by
  refine To.turn _ (fun w hs => ?_) k
  have hrow : w.ownsRow 0 e size (.slice A l.length cap) l.length (l.flatMap enc) := hs.each _ (List.mem_cons_self ..)
  have hnew : (rows enc e size A cap (l.take n)).holds w := by
    show w.ownsRow 0 e size (.slice A (l.take n).length cap) (l.take n).length ((l.take n).flatMap enc)
    have hfl : (l.take n).flatMap enc = (l.flatMap enc).take (n * size) := by
      have hlen : ((l.take n).flatMap enc).length = n * size := by rw [E.flat_len, List.length_take, Nat.min_eq_left hn]
      conv => rhs; rw [← List.take_append_drop n l, List.flatMap_append, ← hlen, List.take_left']
    rw [hfl, List.length_take, Nat.min_eq_left hn]
    rcases hrow.2 with ⟨hv, h0⟩ | ⟨g, cap', cur, hv, _⟩
    · have hv' := hv
      simp only [Value.slice.injEq] at hv'
      have hl0 : l.length = 0 := hv'.2.1
      obtain rfl := List.eq_nil_of_length_eq_zero hl0
      have : n = 0 := by simpa using hn
      subst this
      simpa using hrow
    · simp only [Value.slice.injEq] at hv
      obtain ⟨rfl, _, _⟩ := hv
      exact own_shorter hrow n hn
  exact ⟨⟨fun c hc => by
    rcases List.mem_cons.1 hc with rfl | hc
    · exact hnew
    · exact hs.each c (List.mem_cons_of_mem _ hc), hs.nodup, hs.apart⟩, Keeps.refl _ _, fun _ h _ => h, fun _ h _ => .inr h⟩
end
end Go.Sep
