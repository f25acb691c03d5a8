/- The walk of TraceProjects. Own text (walks printed by sx.py). -/
import Derived.Test.YtneimfacccgaeaaV16
namespace Go.Proofs.Ytneimfacccgaeaa
open Go.RowKit Go.Flow Go.Mem Go.Sep
theorem rvalid_fn2 (Al : Option Addr) (cl : Nat) (l : List Ev) (hl : l.length ≤ 1000000) : Does Try.prog 29 [.slice Al l.length cl] [ros Ev.cells Al l] (fun v _ => v = .bool (VS.all ⟨[], [], []⟩ l)) :=
  (rvalid_fn Al cl l hl).mono fun v Γ' ⟨b, h1, h2⟩ => by
    rw [h1]; congr 1
    have h3 := h2.trans (valid_iff l).symm
    cases b <;> cases h : VS.all ⟨[], [], []⟩ l <;> simp_all
theorem sub_filter {K : List Ev} {q : Ev → Bool} : ∀ p ∈ (K.filter q).map Ev.ar, p ∈ K.map Ev.ar := fun p hp => by
  obtain ⟨e, he, rfl⟩ := List.mem_map.1 hp
  exact List.mem_map.2 ⟨e, (List.mem_filter.1 he).1, rfl⟩
theorem val_args {x y : Ev} (h : x.val = y.val) : x.args = y.args := ((val_eq x y).1 h).2.2.2.2.2.2.2.2
theorem proj_args {K O : List Ev} {q : Ev → Bool} (hO : O.map Ev.val = (K.filter q).map Ev.val) (h : ∀ e ∈ K, e.args.length ≤ 1000000000000) : ∀ e ∈ O, e.args.length ≤ 1000000000000 := fun e he => by
  have h1 : e.val ∈ (K.filter q).map Ev.val := by rw [← hO]; exact List.mem_map.2 ⟨e, he, rfl⟩
  obtain ⟨x, hx, h2⟩ := List.mem_map.1 h1
  rw [← val_args h2]; exact h x (List.mem_filter.1 hx).1
set_option maxHeartbeats 2000000 in
set_option maxRecDepth 100000 in
theorem projects_fn (Al : Option Addr) (cl : Nat) (l : List Ev) (c : Int) (hc : l.length ≤ cl) (ha : ∀ e ∈ l, e.args.length ≤ e.cap) (hk : ∀ e ∈ l, e.ok) :
    Does Try.prog 7 [.slice Al l.length cl, .int .i64 c] [ros Ev.cells Al l, argsS (l.map Ev.ar)] (fun v _ => v = .bool true) := by
  refine Does.enter Try.func7 rfl Try.ntmps7 rfl (fun w0 => ?_)
  refine To.seq ?_
  refine To.reg ?_
  refine To.rd rfl rfl rfl (Rd.assign rfl rfl) ?_
  refine To.nil ?_
  refine To.thenN ?_
  refine To.seq ?_
  refine To.seq ?_
  refine To.reg ?_
  refine To.callV rfl rfl rfl (Ent.fn rfl rfl ca11) (awake_fn) rfl (oks_nil _) ?_
  refine To.rd rfl rfl rfl (Rd.not rfl rfl) ?_
  refine To.nil ?_
  refine To.thenN ?_
  refine To.condF rfl ?_
  refine To.skip ?_
  refine To.thenN ?_
  refine To.seq ?_
  refine To.reg ?_
  refine To.rd rfl rfl rfl (Rd.move rfl rfl) ?_
  refine To.callQ rfl rfl rfl (Ent.fn rfl rfl ca12) (few_fn Al cl l 20 (by decide) hc ha) rfl (oks_cons (oks_at 0 rfl) (oks_nil _)) ?_
  rintro _ _ ⟨Ak, qk, rfl, rfl⟩
  refine ⟨rfl, ?_⟩
  refine To.as [rows Ev.cells 37 9 Ak qk ((l.take 20).map Ev.cut), ros Ev.cells Al l, argsS (l.map Ev.ar)] rfl ?_
  refine To.rd rfl rfl rfl (Rd.assign rfl rfl) ?_
  refine To.nil ?_
  refine To.thenN ?_
  refine To.seq ?_
  refine To.know (p := ((l.take 20).map Ev.cut).length ≤ qk) (fun w hw => own_caps 0 rfl hw) (fun hqK => ?_)
  refine To.only [0, 0, 0] rfl ?_
  refine To.layRow ?_
  refine To.derive (argsS (((l.take 20).map Ev.cut).map Ev.ar)) rfl (argsS_cut 2 rfl).1 (argsS_cut 2 rfl).2 ?_
  have hKl : ((l.take 20).map Ev.cut).length ≤ 20 := cut_len
  have hKa : ∀ e ∈ ((l.take 20).map Ev.cut), e.args.length ≤ 1000000000000 := cut_args
  have hKk : ∀ e ∈ ((l.take 20).map Ev.cut), 0 ≤ e.k ∧ e.k < 256 := cut_k hk
  obtain ⟨K, hK⟩ : ∃ K, K = ((l.take 20).map Ev.cut) := ⟨_, rfl⟩
  rw [← hK] at hKl hKa hKk hqK
  rw [← hK]
  refine To.reg ?_
  refine To.rd rfl rfl rfl (Rd.move rfl rfl) ?_
  refine To.rd rfl rfl rfl (Rd.move rfl rfl) ?_
  refine To.dup 1 rfl rfl ?_
  refine To.dup 1 rfl rfl ?_
  refine To.call [1, 0] rfl rfl rfl (Ent.fn rfl rfl ca26) rfl (project_fn Ak qk K c (Nat.le_trans hKl (by decide)) hKa) ?_
  rintro _ _ ⟨Ap, qp, O, rfl, rfl, hO⟩
  refine To.as [rows Ev.cells 37 9 Ap qp O, argsS (O.map Ev.ar), argsS (K.map Ev.ar), ros Ev.cells Ak K, ros Ev.cells Al l, argsS (l.map Ev.ar)] rfl ?_
  have hOl : O.length ≤ 1000000 := by
    have h := congrArg List.length hO
    rw [List.length_map, List.length_map] at h
    rw [h]; exact Nat.le_trans (List.length_filter_le _ _) (Nat.le_trans hKl (by decide))
  have hOa : ∀ e ∈ O, e.args.length ≤ 1000000000000 := proj_args hO hKa
  refine To.rd rfl rfl rfl (Rd.move rfl rfl) ?_
  refine To.rd rfl rfl rfl (Rd.move rfl rfl) ?_
  refine To.callQ rfl rfl rfl (Ent.fn rfl rfl ca27) (rproject_fn Ak qk K c (Nat.le_trans hKl (by decide))) rfl (oks_cons (oks_at 3 rfl) (oks_nil _)) ?_
  rintro _ _ ⟨Ar, qr, rfl, rfl⟩
  refine ⟨rfl, ?_⟩
  refine To.as [rows Ev.cells 37 9 Ar qr (K.filter fun e => decide (e.c = c)), rows Ev.cells 37 9 Ap qp O, argsS (O.map Ev.ar), argsS (K.map Ev.ar), ros Ev.cells Ak K, ros Ev.cells Al l, argsS (l.map Ev.ar)] rfl ?_
  refine To.callV rfl rfl rfl (Ent.fn rfl rfl ca25) (sames_fn Ap Ar qp qr O (K.filter fun e => decide (e.c = c)) hOa (Nat.le_trans hOl (by decide))) rfl (oks_cons (oks_row 1 rfl) (oks_cons (oks_row 0 rfl) (oks_cons (oks_at 2 rfl) (oks_cons ((argsS_sub 3 rfl sub_filter).2) (oks_nil _))))) ?_
  refine To.rdP rfl rfl rfl (Rd.move rfl rfl) (fun g16 => ?_) (fun g16 => ?_)
  ·
    refine To.rd rfl rfl rfl (Rd.move rfl rfl) ?_
    refine To.callV rfl rfl rfl (Ent.fn rfl rfl ca28) (valid_fn Ak qk K (Nat.le_trans hKl (by decide))) rfl (oks_cons (oks_at 4 rfl) (oks_nil _)) ?_
    refine To.rd rfl rfl rfl (Rd.move rfl rfl) ?_
    refine To.callV rfl rfl rfl (Ent.fn rfl rfl ca29) (rvalid_fn2 Ak qk K (Nat.le_trans hKl (by decide))) rfl (oks_cons (oks_at 4 rfl) (oks_nil _)) ?_
    refine To.rd rfl rfl rfl (Rd.as (v' := .bool true) (congrArg Value.bool (beq_self_eq_true _)) (Rd.eqlB rfl Try.underlying4 rfl rfl)) ?_
    refine To.rd rfl rfl rfl (Rd.pickT rfl rfl rfl) ?_
    refine To.rd rfl rfl rfl (Rd.assign rfl rfl) ?_
    refine To.nil ?_
    refine To.sub [(0, .slice Ak K.length qk), (1, .int .i64 c), (4, .bool true), (6, .bool false)] ⟨rfl, rfl, rfl, rfl, trivial⟩ ?_
    refine To.thenN ?_
    refine To.ret ?_
    refine To.end1 (.inl rfl) Try.results7 rfl ?_
    rfl
  ·
    exact absurd hO g16
end Go.Proofs.Ytneimfacccgaeaa
