/- Arguments, opened to plain data. -/
import Derived.Test.YtadeigpphklmfaaOpn
import Derived.Test.YtadeigpphklmfaaDos
import Derived.Test.YtadeigpphklmfaaProg
namespace Go.Proofs.Ytadeigpphklmfaa
open Go.RowKit Go.Eng
set_option linter.unusedVariables false
set_option linter.unusedSimpArgs false
theorem cells_3 : Try.prog.cellsOf 3 = 1 := by kernel_rfl
theorem cells_4 : Try.prog.cellsOf 4 = 1 := by kernel_rfl
theorem cells_9 : Try.prog.cellsOf 9 = 1 := by kernel_rfl
theorem cells_27 : Try.prog.cellsOf 27 = 2 := by kernel_rfl
theorem cells_29 : Try.prog.cellsOf 29 = 2 := by kernel_rfl
theorem cells_31 : Try.prog.cellsOf 31 = 2 := by kernel_rfl
theorem cells_33 : Try.prog.cellsOf 33 = 2 := by kernel_rfl
theorem cells_34 : Try.prog.cellsOf 34 = 1 := by kernel_rfl
theorem cells_35 : Try.prog.cellsOf 35 = 1 := by kernel_rfl
theorem cells_37 : Try.prog.cellsOf 37 = 9 := by kernel_rfl
theorem cells_39 : Try.prog.cellsOf 39 = 7 := by kernel_rfl
theorem cells_41 : Try.prog.cellsOf 41 = 25 := by kernel_rfl
theorem cells_43 : Try.prog.cellsOf 43 = 30 := by kernel_rfl
theorem cells_54 : Try.prog.cellsOf 54 = 32 := by kernel_rfl
theorem cells_78 : Try.prog.cellsOf 78 = 3 := by kernel_rfl
theorem cells_80 : Try.prog.cellsOf 80 = 2 := by kernel_rfl
theorem op_Inst {H : Type} {enc : TypeId × Value → H} {w : World} {base : Nat} {spare : Nat → Bool} {held : Bool} {cs : List Value} (h : Tr enc Try.prog w base spare held 29 cs) : ∃ x : Inst, cs = [.int .i64 x.replica, .int .i64 x.slot] := by
  have hl := tr_len Try.underlying29 cells_29 h
  obtain ⟨c0, l0, rfl, h0'⟩ := cons_of hl
  obtain ⟨c1, l1, rfl, h1'⟩ := cons_of h0'
  obtain rfl := nil_of h1'
  have h0 := tr_field Try.underlying29 h 0 rfl cells_3
  obtain ⟨a, eh0⟩ := tr_int Try.underlying3 h0
  obtain rfl : c0 = _ := (List.cons.inj eh0).1
  have h1 := tr_field Try.underlying29 h 1 rfl cells_3
  obtain ⟨b, eh1⟩ := tr_int Try.underlying3 h1
  obtain rfl : c1 = _ := (List.cons.inj eh1).1
  exact ⟨⟨a, b⟩, rfl⟩
theorem op_Bal {H : Type} {enc : TypeId × Value → H} {w : World} {base : Nat} {spare : Nat → Bool} {held : Bool} {cs : List Value} (h : Tr enc Try.prog w base spare held 27 cs) : ∃ x : Bal, cs = [.int .i64 x.number, .int .i64 x.replica] := by
  have hl := tr_len Try.underlying27 cells_27 h
  obtain ⟨c0, l0, rfl, h0'⟩ := cons_of hl
  obtain ⟨c1, l1, rfl, h1'⟩ := cons_of h0'
  obtain rfl := nil_of h1'
  have h0 := tr_field Try.underlying27 h 0 rfl cells_3
  obtain ⟨a, eh0⟩ := tr_int Try.underlying3 h0
  obtain rfl : c0 = _ := (List.cons.inj eh0).1
  have h1 := tr_field Try.underlying27 h 1 rfl cells_3
  obtain ⟨b, eh1⟩ := tr_int Try.underlying3 h1
  obtain rfl : c1 = _ := (List.cons.inj eh1).1
  exact ⟨⟨a, b⟩, rfl⟩
theorem op_Stp {H : Type} {enc : TypeId × Value → H} {w : World} {base : Nat} {spare : Nat → Bool} {held : Bool} {cs : List Value} (h : Tr enc Try.prog w base spare held 33 cs) : ∃ x : Stp, cs = [.int .i64 x.time, .int .i64 x.client] := by
  have hl := tr_len Try.underlying33 cells_33 h
  obtain ⟨c0, l0, rfl, h0'⟩ := cons_of hl
  obtain ⟨c1, l1, rfl, h1'⟩ := cons_of h0'
  obtain rfl := nil_of h1'
  have h0 := tr_field Try.underlying33 h 0 rfl cells_3
  obtain ⟨a, eh0⟩ := tr_int Try.underlying3 h0
  obtain rfl : c0 = _ := (List.cons.inj eh0).1
  have h1 := tr_field Try.underlying33 h 1 rfl cells_3
  obtain ⟨b, eh1⟩ := tr_int Try.underlying3 h1
  obtain rfl : c1 = _ := (List.cons.inj eh1).1
  exact ⟨⟨a, b⟩, rfl⟩
theorem op_Txn {H : Type} {enc : TypeId × Value → H} {w : World} {base : Nat} {spare : Nat → Bool} {held : Bool} {cs : List Value} (h : Tr enc Try.prog w base spare held 31 cs) : ∃ x : Txn, cs = [.int .i64 x.client, .int .i64 x.number] := by
  have hl := tr_len Try.underlying31 cells_31 h
  obtain ⟨c0, l0, rfl, h0'⟩ := cons_of hl
  obtain ⟨c1, l1, rfl, h1'⟩ := cons_of h0'
  obtain rfl := nil_of h1'
  have h0 := tr_field Try.underlying31 h 0 rfl cells_3
  obtain ⟨a, eh0⟩ := tr_int Try.underlying3 h0
  obtain rfl : c0 = _ := (List.cons.inj eh0).1
  have h1 := tr_field Try.underlying31 h 1 rfl cells_3
  obtain ⟨b, eh1⟩ := tr_int Try.underlying3 h1
  obtain rfl : c1 = _ := (List.cons.inj eh1).1
  exact ⟨⟨a, b⟩, rfl⟩
theorem op_Rd {H : Type} {enc : TypeId × Value → H} {w : World} {base : Nat} {spare : Nat → Bool} {held : Bool} {cs : List Value} (h : Tr enc Try.prog w base spare held 78 cs) : ∃ x : Rd, cs = [.string x.key, .int .i64 x.ver.time, .int .i64 x.ver.client] := by
  have hl := tr_len Try.underlying78 cells_78 h
  obtain ⟨c0, l0, rfl, h0'⟩ := cons_of hl
  obtain ⟨c1, l1, rfl, h1'⟩ := cons_of h0'
  obtain ⟨c2, l2, rfl, h2'⟩ := cons_of h1'
  obtain rfl := nil_of h2'
  have h0 := tr_field Try.underlying78 h 0 rfl cells_9
  obtain ⟨a, eh0⟩ := tr_string Try.underlying9 h0
  obtain rfl : c0 = _ := (List.cons.inj eh0).1
  have h1 := tr_field Try.underlying78 h 1 rfl cells_33
  obtain ⟨b, eh1⟩ := op_Stp h1
  have fh1 : [c1, c2] = _ := eh1
  simp only [List.cons.injEq, and_true] at fh1
  obtain ⟨rfl, rfl⟩ := fh1
  exact ⟨⟨a, b⟩, rfl⟩
theorem op_Wr {H : Type} {enc : TypeId × Value → H} {w : World} {base : Nat} {spare : Nat → Bool} {held : Bool} {cs : List Value} (h : Tr enc Try.prog w base spare held 80 cs) : ∃ x : Wr, cs = [.string x.key, .string x.val] := by
  have hl := tr_len Try.underlying80 cells_80 h
  obtain ⟨c0, l0, rfl, h0'⟩ := cons_of hl
  obtain ⟨c1, l1, rfl, h1'⟩ := cons_of h0'
  obtain rfl := nil_of h1'
  have h0 := tr_field Try.underlying80 h 0 rfl cells_9
  obtain ⟨a, eh0⟩ := tr_string Try.underlying9 h0
  obtain rfl : c0 = _ := (List.cons.inj eh0).1
  have h1 := tr_field Try.underlying80 h 1 rfl cells_9
  obtain ⟨b, eh1⟩ := tr_string Try.underlying9 h1
  obtain rfl : c1 = _ := (List.cons.inj eh1).1
  exact ⟨⟨a, b⟩, rfl⟩
theorem op_Dep {H : Type} {enc : TypeId × Value → H} {w : World} {base : Nat} {spare : Nat → Bool} {held : Bool} {cs : List Value} (h : Tr enc Try.prog w base spare held 39 cs) : ∃ x : Dep, cs = [.int .i64 x.d0, .int .i64 x.d1, .int .i64 x.d2, .int .i64 x.d3, .int .i64 x.d4, .int .i64 x.d5, .int .i64 x.d6] := by
  have hl := tr_alen Try.underlying39 cells_39 h
  obtain ⟨c0, l0, rfl, h0'⟩ := cons_of hl
  obtain ⟨c1, l1, rfl, h1'⟩ := cons_of h0'
  obtain ⟨c2, l2, rfl, h2'⟩ := cons_of h1'
  obtain ⟨c3, l3, rfl, h3'⟩ := cons_of h2'
  obtain ⟨c4, l4, rfl, h4'⟩ := cons_of h3'
  obtain ⟨c5, l5, rfl, h5'⟩ := cons_of h4'
  obtain ⟨c6, l6, rfl, h6'⟩ := cons_of h5'
  obtain rfl := nil_of h6'
  have g0 := tr_at Try.underlying39 cells_3 h 0 (by decide)
  obtain ⟨a0, e0⟩ := tr_int Try.underlying3 g0
  obtain rfl : c0 = _ := (List.cons.inj e0).1
  have g1 := tr_at Try.underlying39 cells_3 h 1 (by decide)
  obtain ⟨a1, e1⟩ := tr_int Try.underlying3 g1
  obtain rfl : c1 = _ := (List.cons.inj e1).1
  have g2 := tr_at Try.underlying39 cells_3 h 2 (by decide)
  obtain ⟨a2, e2⟩ := tr_int Try.underlying3 g2
  obtain rfl : c2 = _ := (List.cons.inj e2).1
  have g3 := tr_at Try.underlying39 cells_3 h 3 (by decide)
  obtain ⟨a3, e3⟩ := tr_int Try.underlying3 g3
  obtain rfl : c3 = _ := (List.cons.inj e3).1
  have g4 := tr_at Try.underlying39 cells_3 h 4 (by decide)
  obtain ⟨a4, e4⟩ := tr_int Try.underlying3 g4
  obtain rfl : c4 = _ := (List.cons.inj e4).1
  have g5 := tr_at Try.underlying39 cells_3 h 5 (by decide)
  obtain ⟨a5, e5⟩ := tr_int Try.underlying3 g5
  obtain rfl : c5 = _ := (List.cons.inj e5).1
  have g6 := tr_at Try.underlying39 cells_3 h 6 (by decide)
  obtain ⟨a6, e6⟩ := tr_int Try.underlying3 g6
  obtain rfl : c6 = _ := (List.cons.inj e6).1
  exact ⟨⟨a0, a1, a2, a3, a4, a5, a6⟩, rfl⟩
theorem op_Cmd {H : Type} {enc : TypeId × Value → H} {w : World} {base : Nat} {spare : Nat → Bool} {held : Bool} {cs : List Value} (h : Tr enc Try.prog w base spare held 37 cs) : ∃ (c : Cmd) (p : Ptr), cs = [.int .i64 c.kind, .int .i64 c.txn.client, .int .i64 c.txn.number, .int .i64 c.stp.time, .int .i64 c.stp.client, .int .i64 c.shards, .slice p.A c.reads.length p.n, .slice p.B c.writes.length p.m, .bool c.commit] ∧ CmdAt w c p := by
  have hl := tr_len Try.underlying37 cells_37 h
  obtain ⟨c0, l0, rfl, h0'⟩ := cons_of hl
  obtain ⟨c1, l1, rfl, h1'⟩ := cons_of h0'
  obtain ⟨c2, l2, rfl, h2'⟩ := cons_of h1'
  obtain ⟨c3, l3, rfl, h3'⟩ := cons_of h2'
  obtain ⟨c4, l4, rfl, h4'⟩ := cons_of h3'
  obtain ⟨c5, l5, rfl, h5'⟩ := cons_of h4'
  obtain ⟨c6, l6, rfl, h6'⟩ := cons_of h5'
  obtain ⟨c7, l7, rfl, h7'⟩ := cons_of h6'
  obtain ⟨c8, l8, rfl, h8'⟩ := cons_of h7'
  obtain rfl := nil_of h8'
  have h0 := tr_field Try.underlying37 h 0 rfl cells_3
  obtain ⟨a0, eh0⟩ := tr_int Try.underlying3 h0
  obtain rfl : c0 = _ := (List.cons.inj eh0).1
  have h1 := tr_field Try.underlying37 h 1 rfl cells_31
  obtain ⟨a1, eh1⟩ := op_Txn h1
  have fh1 : [c1, c2] = _ := eh1
  simp only [List.cons.injEq, and_true] at fh1
  obtain ⟨rfl, rfl⟩ := fh1
  have h2 := tr_field Try.underlying37 h 2 rfl cells_33
  obtain ⟨a2, eh2⟩ := op_Stp h2
  have fh2 : [c3, c4] = _ := eh2
  simp only [List.cons.injEq, and_true] at fh2
  obtain ⟨rfl, rfl⟩ := fh2
  have h3 := tr_field Try.underlying37 h 3 rfl cells_3
  obtain ⟨a3, eh3⟩ := tr_int Try.underlying3 h3
  obtain rfl : c5 = _ := (List.cons.inj eh3).1
  have h4 := tr_field Try.underlying37 h 4 rfl cells_34
  obtain ⟨A, xs, nh4, eh4, rh4, bh4, dh4⟩ := tr_slice (d := kRd) Try.underlying34 cells_78 (fun cs' h' => op_Rd h') h4
  obtain rfl : c6 = _ := (List.cons.inj eh4).1
  have h5 := tr_field Try.underlying37 h 5 rfl cells_35
  obtain ⟨B, ys, nh5, eh5, rh5, bh5, dh5⟩ := tr_slice (d := kWr) Try.underlying35 cells_80 (fun cs' h' => op_Wr h') h5
  obtain rfl : c7 = _ := (List.cons.inj eh5).1
  have h6 := tr_field Try.underlying37 h 6 rfl cells_4
  obtain ⟨a6, eh6⟩ := tr_bool Try.underlying4 h6
  obtain rfl : c8 = _ := (List.cons.inj eh6).1
  exact ⟨⟨a0, a1, a2, a3, xs, ys, a6⟩, ⟨A, nh4, B, nh5⟩, rfl, ⟨rh4, bh4, dh4, rh5, bh5, dh5⟩⟩
theorem op_Rec {H : Type} {enc : TypeId × Value → H} {w : World} {base : Nat} {spare : Nat → Bool} {held : Bool} {cs : List Value} (h : Tr enc Try.prog w base spare held 41 cs) : ∃ (r : Rec) (p : Ptr), cs = [.int .i64 r.inst.replica, .int .i64 r.inst.slot, .int .i64 r.status, .int .i64 r.promise.number, .int .i64 r.promise.replica, .int .i64 r.ballot.number, .int .i64 r.ballot.replica, .int .i64 r.cmd.kind, .int .i64 r.cmd.txn.client, .int .i64 r.cmd.txn.number, .int .i64 r.cmd.stp.time, .int .i64 r.cmd.stp.client, .int .i64 r.cmd.shards, .slice p.A r.cmd.reads.length p.n, .slice p.B r.cmd.writes.length p.m, .bool r.cmd.commit, .int .i64 r.seq, .int .i64 r.deps.d0, .int .i64 r.deps.d1, .int .i64 r.deps.d2, .int .i64 r.deps.d3, .int .i64 r.deps.d4, .int .i64 r.deps.d5, .int .i64 r.deps.d6, .bool r.kept] ∧ CmdAt w r.cmd p := by
  have hl := tr_len Try.underlying41 cells_41 h
  obtain ⟨c0, l0, rfl, h0'⟩ := cons_of hl
  obtain ⟨c1, l1, rfl, h1'⟩ := cons_of h0'
  obtain ⟨c2, l2, rfl, h2'⟩ := cons_of h1'
  obtain ⟨c3, l3, rfl, h3'⟩ := cons_of h2'
  obtain ⟨c4, l4, rfl, h4'⟩ := cons_of h3'
  obtain ⟨c5, l5, rfl, h5'⟩ := cons_of h4'
  obtain ⟨c6, l6, rfl, h6'⟩ := cons_of h5'
  obtain ⟨c7, l7, rfl, h7'⟩ := cons_of h6'
  obtain ⟨c8, l8, rfl, h8'⟩ := cons_of h7'
  obtain ⟨c9, l9, rfl, h9'⟩ := cons_of h8'
  obtain ⟨c10, l10, rfl, h10'⟩ := cons_of h9'
  obtain ⟨c11, l11, rfl, h11'⟩ := cons_of h10'
  obtain ⟨c12, l12, rfl, h12'⟩ := cons_of h11'
  obtain ⟨c13, l13, rfl, h13'⟩ := cons_of h12'
  obtain ⟨c14, l14, rfl, h14'⟩ := cons_of h13'
  obtain ⟨c15, l15, rfl, h15'⟩ := cons_of h14'
  obtain ⟨c16, l16, rfl, h16'⟩ := cons_of h15'
  obtain ⟨c17, l17, rfl, h17'⟩ := cons_of h16'
  obtain ⟨c18, l18, rfl, h18'⟩ := cons_of h17'
  obtain ⟨c19, l19, rfl, h19'⟩ := cons_of h18'
  obtain ⟨c20, l20, rfl, h20'⟩ := cons_of h19'
  obtain ⟨c21, l21, rfl, h21'⟩ := cons_of h20'
  obtain ⟨c22, l22, rfl, h22'⟩ := cons_of h21'
  obtain ⟨c23, l23, rfl, h23'⟩ := cons_of h22'
  obtain ⟨c24, l24, rfl, h24'⟩ := cons_of h23'
  obtain rfl := nil_of h24'
  have h0 := tr_field Try.underlying41 h 0 rfl cells_29
  obtain ⟨a0, eh0⟩ := op_Inst h0
  have fh0 : [c0, c1] = _ := eh0
  simp only [List.cons.injEq, and_true] at fh0
  obtain ⟨rfl, rfl⟩ := fh0
  have h1 := tr_field Try.underlying41 h 1 rfl cells_3
  obtain ⟨a1, eh1⟩ := tr_int Try.underlying3 h1
  obtain rfl : c2 = _ := (List.cons.inj eh1).1
  have h2 := tr_field Try.underlying41 h 2 rfl cells_27
  obtain ⟨a2, eh2⟩ := op_Bal h2
  have fh2 : [c3, c4] = _ := eh2
  simp only [List.cons.injEq, and_true] at fh2
  obtain ⟨rfl, rfl⟩ := fh2
  have h3 := tr_field Try.underlying41 h 3 rfl cells_27
  obtain ⟨a3, eh3⟩ := op_Bal h3
  have fh3 : [c5, c6] = _ := eh3
  simp only [List.cons.injEq, and_true] at fh3
  obtain ⟨rfl, rfl⟩ := fh3
  have h4 := tr_field Try.underlying41 h 4 rfl cells_37
  obtain ⟨a4, p4, eh4, hc⟩ := op_Cmd h4
  have fh4 : [c7, c8, c9, c10, c11, c12, c13, c14, c15] = _ := eh4
  simp only [List.cons.injEq, and_true] at fh4
  obtain ⟨rfl, rfl, rfl, rfl, rfl, rfl, rfl, rfl, rfl⟩ := fh4
  have h5 := tr_field Try.underlying41 h 5 rfl cells_3
  obtain ⟨a5, eh5⟩ := tr_int Try.underlying3 h5
  obtain rfl : c16 = _ := (List.cons.inj eh5).1
  have h6 := tr_field Try.underlying41 h 6 rfl cells_39
  obtain ⟨a6, eh6⟩ := op_Dep h6
  have fh6 : [c17, c18, c19, c20, c21, c22, c23] = _ := eh6
  simp only [List.cons.injEq, and_true] at fh6
  obtain ⟨rfl, rfl, rfl, rfl, rfl, rfl, rfl⟩ := fh6
  have h7 := tr_field Try.underlying41 h 7 rfl cells_4
  obtain ⟨a7, eh7⟩ := tr_bool Try.underlying4 h7
  obtain rfl : c24 = _ := (List.cons.inj eh7).1
  exact ⟨⟨a0, a1, a2, a3, a4, a5, a6, a7⟩, p4, rfl, hc⟩
theorem op_Msg {H : Type} {enc : TypeId × Value → H} {w : World} {base : Nat} {spare : Nat → Bool} {held : Bool} {cs : List Value} (h : Tr enc Try.prog w base spare held 43 cs) : ∃ (m : Msg) (p : Ptr), cs = [.int .i64 m.kind, .int .i64 m.src, .int .i64 m.dst, .int .i64 m.ballot.number, .int .i64 m.ballot.replica, .int .i64 m.r.inst.replica, .int .i64 m.r.inst.slot, .int .i64 m.r.status, .int .i64 m.r.promise.number, .int .i64 m.r.promise.replica, .int .i64 m.r.ballot.number, .int .i64 m.r.ballot.replica, .int .i64 m.r.cmd.kind, .int .i64 m.r.cmd.txn.client, .int .i64 m.r.cmd.txn.number, .int .i64 m.r.cmd.stp.time, .int .i64 m.r.cmd.stp.client, .int .i64 m.r.cmd.shards, .slice p.A m.r.cmd.reads.length p.n, .slice p.B m.r.cmd.writes.length p.m, .bool m.r.cmd.commit, .int .i64 m.r.seq, .int .i64 m.r.deps.d0, .int .i64 m.r.deps.d1, .int .i64 m.r.deps.d2, .int .i64 m.r.deps.d3, .int .i64 m.r.deps.d4, .int .i64 m.r.deps.d5, .int .i64 m.r.deps.d6, .bool m.r.kept] ∧ CmdAt w m.r.cmd p := by
  have hl := tr_len Try.underlying43 cells_43 h
  obtain ⟨c0, l0, rfl, h0'⟩ := cons_of hl
  obtain ⟨c1, l1, rfl, h1'⟩ := cons_of h0'
  obtain ⟨c2, l2, rfl, h2'⟩ := cons_of h1'
  obtain ⟨c3, l3, rfl, h3'⟩ := cons_of h2'
  obtain ⟨c4, l4, rfl, h4'⟩ := cons_of h3'
  obtain ⟨c5, l5, rfl, h5'⟩ := cons_of h4'
  obtain ⟨c6, l6, rfl, h6'⟩ := cons_of h5'
  obtain ⟨c7, l7, rfl, h7'⟩ := cons_of h6'
  obtain ⟨c8, l8, rfl, h8'⟩ := cons_of h7'
  obtain ⟨c9, l9, rfl, h9'⟩ := cons_of h8'
  obtain ⟨c10, l10, rfl, h10'⟩ := cons_of h9'
  obtain ⟨c11, l11, rfl, h11'⟩ := cons_of h10'
  obtain ⟨c12, l12, rfl, h12'⟩ := cons_of h11'
  obtain ⟨c13, l13, rfl, h13'⟩ := cons_of h12'
  obtain ⟨c14, l14, rfl, h14'⟩ := cons_of h13'
  obtain ⟨c15, l15, rfl, h15'⟩ := cons_of h14'
  obtain ⟨c16, l16, rfl, h16'⟩ := cons_of h15'
  obtain ⟨c17, l17, rfl, h17'⟩ := cons_of h16'
  obtain ⟨c18, l18, rfl, h18'⟩ := cons_of h17'
  obtain ⟨c19, l19, rfl, h19'⟩ := cons_of h18'
  obtain ⟨c20, l20, rfl, h20'⟩ := cons_of h19'
  obtain ⟨c21, l21, rfl, h21'⟩ := cons_of h20'
  obtain ⟨c22, l22, rfl, h22'⟩ := cons_of h21'
  obtain ⟨c23, l23, rfl, h23'⟩ := cons_of h22'
  obtain ⟨c24, l24, rfl, h24'⟩ := cons_of h23'
  obtain ⟨c25, l25, rfl, h25'⟩ := cons_of h24'
  obtain ⟨c26, l26, rfl, h26'⟩ := cons_of h25'
  obtain ⟨c27, l27, rfl, h27'⟩ := cons_of h26'
  obtain ⟨c28, l28, rfl, h28'⟩ := cons_of h27'
  obtain ⟨c29, l29, rfl, h29'⟩ := cons_of h28'
  obtain rfl := nil_of h29'
  have h0 := tr_field Try.underlying43 h 0 rfl cells_3
  obtain ⟨a0, eh0⟩ := tr_int Try.underlying3 h0
  obtain rfl : c0 = _ := (List.cons.inj eh0).1
  have h1 := tr_field Try.underlying43 h 1 rfl cells_3
  obtain ⟨a1, eh1⟩ := tr_int Try.underlying3 h1
  obtain rfl : c1 = _ := (List.cons.inj eh1).1
  have h2 := tr_field Try.underlying43 h 2 rfl cells_3
  obtain ⟨a2, eh2⟩ := tr_int Try.underlying3 h2
  obtain rfl : c2 = _ := (List.cons.inj eh2).1
  have h3 := tr_field Try.underlying43 h 3 rfl cells_27
  obtain ⟨a3, eh3⟩ := op_Bal h3
  have fh3 : [c3, c4] = _ := eh3
  simp only [List.cons.injEq, and_true] at fh3
  obtain ⟨rfl, rfl⟩ := fh3
  have h4 := tr_field Try.underlying43 h 4 rfl cells_41
  obtain ⟨a4, p4, eh4, hc⟩ := op_Rec h4
  have fh4 : [c5, c6, c7, c8, c9, c10, c11, c12, c13, c14, c15, c16, c17, c18, c19, c20, c21, c22, c23, c24, c25, c26, c27, c28, c29] = _ := eh4
  simp only [List.cons.injEq, and_true] at fh4
  obtain ⟨rfl, rfl, rfl, rfl, rfl, rfl, rfl, rfl, rfl, rfl, rfl, rfl, rfl, rfl, rfl, rfl, rfl, rfl, rfl, rfl, rfl, rfl, rfl, rfl, rfl⟩ := fh4
  exact ⟨⟨a0, a1, a2, a3, a4⟩, p4, rfl, hc⟩
theorem op_Dz {H : Type} {enc : TypeId × Value → H} {w : World} {base : Nat} {spare : Nat → Bool} {held : Bool} {cs : List Value} (h : Tr enc Try.prog w base spare held 54 cs) : ∃ z : Dz, cs = fDz z ∧ CmdAt w z.m.r.cmd z.p := by
  have hl := tr_len Try.underlying54 cells_54 h
  obtain ⟨c0, l0, rfl, h0'⟩ := cons_of hl
  obtain ⟨c1, l1, rfl, h1'⟩ := cons_of h0'
  obtain ⟨c2, l2, rfl, h2'⟩ := cons_of h1'
  obtain ⟨c3, l3, rfl, h3'⟩ := cons_of h2'
  obtain ⟨c4, l4, rfl, h4'⟩ := cons_of h3'
  obtain ⟨c5, l5, rfl, h5'⟩ := cons_of h4'
  obtain ⟨c6, l6, rfl, h6'⟩ := cons_of h5'
  obtain ⟨c7, l7, rfl, h7'⟩ := cons_of h6'
  obtain ⟨c8, l8, rfl, h8'⟩ := cons_of h7'
  obtain ⟨c9, l9, rfl, h9'⟩ := cons_of h8'
  obtain ⟨c10, l10, rfl, h10'⟩ := cons_of h9'
  obtain ⟨c11, l11, rfl, h11'⟩ := cons_of h10'
  obtain ⟨c12, l12, rfl, h12'⟩ := cons_of h11'
  obtain ⟨c13, l13, rfl, h13'⟩ := cons_of h12'
  obtain ⟨c14, l14, rfl, h14'⟩ := cons_of h13'
  obtain ⟨c15, l15, rfl, h15'⟩ := cons_of h14'
  obtain ⟨c16, l16, rfl, h16'⟩ := cons_of h15'
  obtain ⟨c17, l17, rfl, h17'⟩ := cons_of h16'
  obtain ⟨c18, l18, rfl, h18'⟩ := cons_of h17'
  obtain ⟨c19, l19, rfl, h19'⟩ := cons_of h18'
  obtain ⟨c20, l20, rfl, h20'⟩ := cons_of h19'
  obtain ⟨c21, l21, rfl, h21'⟩ := cons_of h20'
  obtain ⟨c22, l22, rfl, h22'⟩ := cons_of h21'
  obtain ⟨c23, l23, rfl, h23'⟩ := cons_of h22'
  obtain ⟨c24, l24, rfl, h24'⟩ := cons_of h23'
  obtain ⟨c25, l25, rfl, h25'⟩ := cons_of h24'
  obtain ⟨c26, l26, rfl, h26'⟩ := cons_of h25'
  obtain ⟨c27, l27, rfl, h27'⟩ := cons_of h26'
  obtain ⟨c28, l28, rfl, h28'⟩ := cons_of h27'
  obtain ⟨c29, l29, rfl, h29'⟩ := cons_of h28'
  obtain ⟨c30, l30, rfl, h30'⟩ := cons_of h29'
  obtain ⟨c31, l31, rfl, h31'⟩ := cons_of h30'
  obtain rfl := nil_of h31'
  have h0 := tr_field Try.underlying54 h 0 rfl cells_3
  obtain ⟨a0, eh0⟩ := tr_int Try.underlying3 h0
  obtain rfl : c0 = _ := (List.cons.inj eh0).1
  have h1 := tr_field Try.underlying54 h 1 rfl cells_3
  obtain ⟨a1, eh1⟩ := tr_int Try.underlying3 h1
  obtain rfl : c1 = _ := (List.cons.inj eh1).1
  have h2 := tr_field Try.underlying54 h 2 rfl cells_43
  obtain ⟨a2, p2, eh2, hc⟩ := op_Msg h2
  have fh2 : [c2, c3, c4, c5, c6, c7, c8, c9, c10, c11, c12, c13, c14, c15, c16, c17, c18, c19, c20, c21, c22, c23, c24, c25, c26, c27, c28, c29, c30, c31] = _ := eh2
  simp only [List.cons.injEq, and_true] at fh2
  obtain ⟨rfl, rfl, rfl, rfl, rfl, rfl, rfl, rfl, rfl, rfl, rfl, rfl, rfl, rfl, rfl, rfl, rfl, rfl, rfl, rfl, rfl, rfl, rfl, rfl, rfl, rfl, rfl, rfl, rfl, rfl⟩ := fh2
  exact ⟨⟨a0, a1, a2, p2⟩, rfl, hc⟩
theorem op_MsgO {H : Type} {enc : TypeId × Value → H} {w : World} {base : Nat} {spare : Nat → Bool} {held : Bool} {cs : List Value} (h : Tr enc Try.prog w base spare held 43 cs) : ∃ z : Msg × Ptr, cs = fMz z ∧ CmdAt w z.1.r.cmd z.2 := by
  obtain ⟨r, p, e, hc⟩ := op_Msg h
  exact ⟨(r, p), e, hc⟩
end Go.Proofs.Ytadeigpphklmfaa
