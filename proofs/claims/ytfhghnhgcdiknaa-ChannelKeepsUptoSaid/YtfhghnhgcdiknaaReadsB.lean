/- What the readings of arguments of bounded bulk say of their cells. No condition. -/
import Derived.Test.YtfhghnhgcdiknaaReadB
import Derived.Test.YtfhghnhgcdiknaaRows
import Derived.KernelRfl
set_option linter.unusedVariables false
namespace Go.Proofs.Ytfhghnhgcdiknaa
open Go.RowKit
def bd_region (N : Nat) (x : TRegion) : Prop := True
theorem rdB_region : RdB Try.prog Kd.region 156 bd_region := fun enc w B N hB fuel cs x hh hb => by
  have hh := flat_readB hB 6 156 [.int .i64, .int .i64, .bool] (by kernel_rfl) fuel cs x hh hb
  obtain ⟨_, r0, rfl, ⟨v0, rfl, _⟩, h0⟩ := hh.cons_inv
  obtain ⟨_, r1, rfl, ⟨v1, rfl, _⟩, h1⟩ := h0.cons_inv
  obtain ⟨_, r2, rfl, ⟨v2, rfl⟩, h2⟩ := h1.cons_inv
  obtain rfl := h2.nil_inv
  exact ⟨⟨v0, v1, v2⟩, rfl, trivial⟩

def bd_procConf (N : Nat) (x : TProcConf) : Prop := True
theorem rdB_procConf : RdB Try.prog Kd.procConf 122 bd_procConf := fun enc w B N hB fuel cs x hh hb => by
  have hh := flat_readB hB 6 122 [.int .i64, .int .i64, .int .i64, .int .i64, .bool] (by kernel_rfl) fuel cs x hh hb
  obtain ⟨_, r0, rfl, ⟨v0, rfl, _⟩, h0⟩ := hh.cons_inv
  obtain ⟨_, r1, rfl, ⟨v1, rfl, _⟩, h1⟩ := h0.cons_inv
  obtain ⟨_, r2, rfl, ⟨v2, rfl, _⟩, h2⟩ := h1.cons_inv
  obtain ⟨_, r3, rfl, ⟨v3, rfl, _⟩, h3⟩ := h2.cons_inv
  obtain ⟨_, r4, rfl, ⟨v4, rfl⟩, h4⟩ := h3.cons_inv
  obtain rfl := h4.nil_inv
  exact ⟨⟨v0, v1, v2, v3, v4⟩, rfl, trivial⟩

def bd_bufferConf (N : Nat) (x : TBufferConf) : Prop := True
theorem rdB_bufferConf : RdB Try.prog Kd.bufferConf 114 bd_bufferConf := fun enc w B N hB fuel cs x hh hb => by
  have hh := flat_readB hB 6 114 [.int .i64, .bool] (by kernel_rfl) fuel cs x hh hb
  obtain ⟨_, r0, rfl, ⟨v0, rfl, _⟩, h0⟩ := hh.cons_inv
  obtain ⟨_, r1, rfl, ⟨v1, rfl⟩, h1⟩ := h0.cons_inv
  obtain rfl := h1.nil_inv
  exact ⟨⟨v0, v1⟩, rfl, trivial⟩

def bd_semaConf (N : Nat) (x : TSemaConf) : Prop := True
theorem rdB_semaConf : RdB Try.prog Kd.semaConf 117 bd_semaConf := fun enc w B N hB fuel cs x hh hb => by
  have hh := flat_readB hB 6 117 [.int .i64, .int .i64, .bool] (by kernel_rfl) fuel cs x hh hb
  obtain ⟨_, r0, rfl, ⟨v0, rfl, _⟩, h0⟩ := hh.cons_inv
  obtain ⟨_, r1, rfl, ⟨v1, rfl, _⟩, h1⟩ := h0.cons_inv
  obtain ⟨_, r2, rfl, ⟨v2, rfl⟩, h2⟩ := h1.cons_inv
  obtain rfl := h2.nil_inv
  exact ⟨⟨v0, v1, v2⟩, rfl, trivial⟩

def bd_partConf (N : Nat) (x : TPartConf) : Prop := x.Regions.length ≤ N ∧ (∀ y ∈ x.Regions, bd_region N y) ∧ x.Procs.length ≤ N ∧ (∀ y ∈ x.Procs, bd_procConf N y) ∧ x.Buffers.length ≤ N ∧ (∀ y ∈ x.Buffers, bd_bufferConf N y) ∧ x.Semas.length ≤ N ∧ (∀ y ∈ x.Semas, bd_semaConf N y) ∧ x.Samples.length ≤ N ∧ (∀ y ∈ x.Samples, True) ∧ x.Queues.length ≤ N ∧ (∀ y ∈ x.Queues, True) ∧ x.Table.length ≤ N ∧ (∀ y ∈ x.Table, True)
theorem rdB_partConf : RdB Try.prog Kd.partConf 75 bd_partConf := fun enc w B N hB fuel cs x hh hb => by
  have hh := flat_readB hB 6 75 [.int .i64, .slice 156, .slice 122, .int .i64, .slice 114, .slice 117, .int .i64, .slice 3, .slice 3, .int .i64, .slice 3] (by kernel_rfl) fuel cs x hh hb
  obtain ⟨_, r0, rfl, ⟨v0, rfl, _⟩, h0⟩ := hh.cons_inv
  obtain ⟨_, r1, rfl, hl1, h1⟩ := h0.cons_inv
  obtain ⟨A1, c1, v1, rfl, hs1, hn1, hx1⟩ := leaf_sliceB hB rdB_region (by kernel_rfl) (by decide) hl1
  obtain ⟨_, r2, rfl, hl2, h2⟩ := h1.cons_inv
  obtain ⟨A2, c2, v2, rfl, hs2, hn2, hx2⟩ := leaf_sliceB hB rdB_procConf (by kernel_rfl) (by decide) hl2
  obtain ⟨_, r3, rfl, ⟨v3, rfl, _⟩, h3⟩ := h2.cons_inv
  obtain ⟨_, r4, rfl, hl4, h4⟩ := h3.cons_inv
  obtain ⟨A4, c4, v4, rfl, hs4, hn4, hx4⟩ := leaf_sliceB hB rdB_bufferConf (by kernel_rfl) (by decide) hl4
  obtain ⟨_, r5, rfl, hl5, h5⟩ := h4.cons_inv
  obtain ⟨A5, c5, v5, rfl, hs5, hn5, hx5⟩ := leaf_sliceB hB rdB_semaConf (by kernel_rfl) (by decide) hl5
  obtain ⟨_, r6, rfl, ⟨v6, rfl, _⟩, h6⟩ := h5.cons_inv
  obtain ⟨_, r7, rfl, hl7, h7⟩ := h6.cons_inv
  obtain ⟨A7, c7, v7, rfl, hs7, hn7, hx7⟩ := leaf_sliceB hB (rdB_int Try.underlying3) (by kernel_rfl) (by decide) hl7
  obtain ⟨_, r8, rfl, hl8, h8⟩ := h7.cons_inv
  obtain ⟨A8, c8, v8, rfl, hs8, hn8, hx8⟩ := leaf_sliceB hB (rdB_int Try.underlying3) (by kernel_rfl) (by decide) hl8
  obtain ⟨_, r9, rfl, ⟨v9, rfl, _⟩, h9⟩ := h8.cons_inv
  obtain ⟨_, r10, rfl, hl10, h10⟩ := h9.cons_inv
  obtain ⟨A10, c10, v10, rfl, hs10, hn10, hx10⟩ := leaf_sliceB hB (rdB_int Try.underlying3) (by kernel_rfl) (by decide) hl10
  obtain rfl := h10.nil_inv
  exact ⟨⟨v0, v1, v2, v3, v4, v5, v6, v7, v8, v9, v10⟩, ⟨A1, c1, A2, c2, A4, c4, A5, c5, A7, c7, A8, c8, A10, c10, rfl, hs1, hs2, hs4, hs5, hs7, hs8, hs10⟩, hn1, hx1, hn2, hx2, hn4, hx4, hn5, hx5, hn7, hx7, hn8, hx8, hn10, hx10⟩

def bd_window (N : Nat) (x : TWindow) : Prop := True
theorem rdB_window : RdB Try.prog Kd.window 128 bd_window := fun enc w B N hB fuel cs x hh hb => by
  have hh := flat_readB hB 6 128 [.int .i64, .int .i64, .int .i64] (by kernel_rfl) fuel cs x hh hb
  obtain ⟨_, r0, rfl, ⟨v0, rfl, _⟩, h0⟩ := hh.cons_inv
  obtain ⟨_, r1, rfl, ⟨v1, rfl, _⟩, h1⟩ := h0.cons_inv
  obtain ⟨_, r2, rfl, ⟨v2, rfl, _⟩, h2⟩ := h1.cons_inv
  obtain rfl := h2.nil_inv
  exact ⟨⟨v0, v1, v2⟩, rfl, trivial⟩

def bd_channel (N : Nat) (x : TChannel) : Prop := True
theorem rdB_channel : RdB Try.prog Kd.channel 32 bd_channel := fun enc w B N hB fuel cs x hh hb => by
  have hh := flat_readB hB 6 32 [.bool, .int .i64, .int .i64, .int .i64, .int .i64] (by kernel_rfl) fuel cs x hh hb
  obtain ⟨_, r0, rfl, ⟨v0, rfl⟩, h0⟩ := hh.cons_inv
  obtain ⟨_, r1, rfl, ⟨v1, rfl, _⟩, h1⟩ := h0.cons_inv
  obtain ⟨_, r2, rfl, ⟨v2, rfl, _⟩, h2⟩ := h1.cons_inv
  obtain ⟨_, r3, rfl, ⟨v3, rfl, _⟩, h3⟩ := h2.cons_inv
  obtain ⟨_, r4, rfl, ⟨v4, rfl, _⟩, h4⟩ := h3.cons_inv
  obtain rfl := h4.nil_inv
  exact ⟨⟨v0, v1, v2, v3, v4⟩, rfl, trivial⟩

def bd_config (N : Nat) (x : TConfig) : Prop := x.Lines.length ≤ N ∧ (∀ y ∈ x.Lines, True) ∧ x.Parts.length ≤ N ∧ (∀ y ∈ x.Parts, bd_partConf N y) ∧ x.Windows.length ≤ N ∧ (∀ y ∈ x.Windows, bd_window N y) ∧ x.Channels.length ≤ N ∧ (∀ y ∈ x.Channels, bd_channel N y)
theorem rdB_config : RdB Try.prog Kd.config 27 bd_config := fun enc w B N hB fuel cs x hh hb => by
  have hh := flat_readB hB 6 27 [.int .i64, .int .i64, .slice 3, .slice 75, .slice 128, .slice 32] (by kernel_rfl) fuel cs x hh hb
  obtain ⟨_, r0, rfl, ⟨v0, rfl, _⟩, h0⟩ := hh.cons_inv
  obtain ⟨_, r1, rfl, ⟨v1, rfl, _⟩, h1⟩ := h0.cons_inv
  obtain ⟨_, r2, rfl, hl2, h2⟩ := h1.cons_inv
  obtain ⟨A2, c2, v2, rfl, hs2, hn2, hx2⟩ := leaf_sliceB hB (rdB_int Try.underlying3) (by kernel_rfl) (by decide) hl2
  obtain ⟨_, r3, rfl, hl3, h3⟩ := h2.cons_inv
  obtain ⟨A3, c3, v3, rfl, hs3, hn3, hx3⟩ := leaf_sliceB hB rdB_partConf (by kernel_rfl) (by decide) hl3
  obtain ⟨_, r4, rfl, hl4, h4⟩ := h3.cons_inv
  obtain ⟨A4, c4, v4, rfl, hs4, hn4, hx4⟩ := leaf_sliceB hB rdB_window (by kernel_rfl) (by decide) hl4
  obtain ⟨_, r5, rfl, hl5, h5⟩ := h4.cons_inv
  obtain ⟨A5, c5, v5, rfl, hs5, hn5, hx5⟩ := leaf_sliceB hB rdB_channel (by kernel_rfl) (by decide) hl5
  obtain rfl := h5.nil_inv
  exact ⟨⟨v0, v1, v2, v3, v4, v5⟩, ⟨A2, c2, A3, c3, A4, c4, A5, c5, rfl, hs2, hs3, hs4, hs5⟩, hn2, hx2, hn3, hx3, hn4, hx4, hn5, hx5⟩

def bd_proc (N : Nat) (x : TProc) : Prop := True
theorem rdB_proc : RdB Try.prog Kd.proc 81 bd_proc := fun enc w B N hB fuel cs x hh hb => by
  have hh := flat_readB hB 6 81 [.int .i64, .int .i64, .bool, .int .i64, .int .i64, .int .i64, .int .i64, .int .i64, .int .i64, .int .i64, .int .i64, .int .i64, .int .i64, .int .i64, .bool, .int .i64, .int .i64, .int .i64] (by kernel_rfl) fuel cs x hh hb
  obtain ⟨_, r0, rfl, ⟨v0, rfl, _⟩, h0⟩ := hh.cons_inv
  obtain ⟨_, r1, rfl, ⟨v1, rfl, _⟩, h1⟩ := h0.cons_inv
  obtain ⟨_, r2, rfl, ⟨v2, rfl⟩, h2⟩ := h1.cons_inv
  obtain ⟨_, r3, rfl, ⟨v3, rfl, _⟩, h3⟩ := h2.cons_inv
  obtain ⟨_, r4, rfl, ⟨v4, rfl, _⟩, h4⟩ := h3.cons_inv
  obtain ⟨_, r5, rfl, ⟨v5, rfl, _⟩, h5⟩ := h4.cons_inv
  obtain ⟨_, r6, rfl, ⟨v6, rfl, _⟩, h6⟩ := h5.cons_inv
  obtain ⟨_, r7, rfl, ⟨v7, rfl, _⟩, h7⟩ := h6.cons_inv
  obtain ⟨_, r8, rfl, ⟨v8, rfl, _⟩, h8⟩ := h7.cons_inv
  obtain ⟨_, r9, rfl, ⟨v9, rfl, _⟩, h9⟩ := h8.cons_inv
  obtain ⟨_, r10, rfl, ⟨v10, rfl, _⟩, h10⟩ := h9.cons_inv
  obtain ⟨_, r11, rfl, ⟨v11, rfl, _⟩, h11⟩ := h10.cons_inv
  obtain ⟨_, r12, rfl, ⟨v12, rfl, _⟩, h12⟩ := h11.cons_inv
  obtain ⟨_, r13, rfl, ⟨v13, rfl, _⟩, h13⟩ := h12.cons_inv
  obtain ⟨_, r14, rfl, ⟨v14, rfl⟩, h14⟩ := h13.cons_inv
  obtain ⟨_, r15, rfl, ⟨v15, rfl, _⟩, h15⟩ := h14.cons_inv
  obtain ⟨_, r16, rfl, ⟨v16, rfl, _⟩, h16⟩ := h15.cons_inv
  obtain ⟨_, r17, rfl, ⟨v17, rfl, _⟩, h17⟩ := h16.cons_inv
  obtain rfl := h17.nil_inv
  exact ⟨⟨v0, v1, v2, ⟨v3, v4, v5, v6, v7⟩, v8, v9, v10, v11, v12, v13, v14, v15, v16, v17⟩, rfl, trivial⟩

def bd_wait (N : Nat) (x : TWait) : Prop := True
theorem rdB_wait : RdB Try.prog Kd.wait 102 bd_wait := fun enc w B N hB fuel cs x hh hb => by
  have hh := flat_readB hB 6 102 [.int .i64, .int .i64, .int .i64] (by kernel_rfl) fuel cs x hh hb
  obtain ⟨_, r0, rfl, ⟨v0, rfl, _⟩, h0⟩ := hh.cons_inv
  obtain ⟨_, r1, rfl, ⟨v1, rfl, _⟩, h1⟩ := h0.cons_inv
  obtain ⟨_, r2, rfl, ⟨v2, rfl, _⟩, h2⟩ := h1.cons_inv
  obtain rfl := h2.nil_inv
  exact ⟨⟨v0, v1, v2⟩, rfl, trivial⟩

def bd_board (N : Nat) (x : TBoard) : Prop := x.L.length ≤ N ∧ (∀ y ∈ x.L, bd_wait N y)
theorem rdB_board : RdB Try.prog Kd.board 91 bd_board := fun enc w B N hB fuel cs x hh hb => by
  have hh := flat_readB hB 6 91 [.bool, .int .i64, .slice 102] (by kernel_rfl) fuel cs x hh hb
  obtain ⟨_, r0, rfl, ⟨v0, rfl⟩, h0⟩ := hh.cons_inv
  obtain ⟨_, r1, rfl, ⟨v1, rfl, _⟩, h1⟩ := h0.cons_inv
  obtain ⟨_, r2, rfl, hl2, h2⟩ := h1.cons_inv
  obtain ⟨A2, c2, v2, rfl, hs2, hn2, hx2⟩ := leaf_sliceB hB rdB_wait (by kernel_rfl) (by decide) hl2
  obtain rfl := h2.nil_inv
  exact ⟨⟨v0, v1, v2⟩, ⟨A2, c2, rfl, hs2⟩, hn2, hx2⟩

def bd_buffer (N : Nat) (x : TBuffer) : Prop := x.Values.length ≤ N ∧ (∀ y ∈ x.Values, True) ∧ x.L.length ≤ N ∧ (∀ y ∈ x.L, bd_wait N y)
theorem rdB_buffer : RdB Try.prog Kd.buffer 93 bd_buffer := fun enc w B N hB fuel cs x hh hb => by
  have hh := flat_readB hB 6 93 [.int .i64, .bool, .slice 3, .slice 102] (by kernel_rfl) fuel cs x hh hb
  obtain ⟨_, r0, rfl, ⟨v0, rfl, _⟩, h0⟩ := hh.cons_inv
  obtain ⟨_, r1, rfl, ⟨v1, rfl⟩, h1⟩ := h0.cons_inv
  obtain ⟨_, r2, rfl, hl2, h2⟩ := h1.cons_inv
  obtain ⟨A2, c2, v2, rfl, hs2, hn2, hx2⟩ := leaf_sliceB hB (rdB_int Try.underlying3) (by kernel_rfl) (by decide) hl2
  obtain ⟨_, r3, rfl, hl3, h3⟩ := h2.cons_inv
  obtain ⟨A3, c3, v3, rfl, hs3, hn3, hx3⟩ := leaf_sliceB hB rdB_wait (by kernel_rfl) (by decide) hl3
  obtain rfl := h3.nil_inv
  exact ⟨⟨v0, v1, v2, v3⟩, ⟨A2, c2, A3, c3, rfl, hs2, hs3⟩, hn2, hx2, hn3, hx3⟩

def bd_sema (N : Nat) (x : TSema) : Prop := x.L.length ≤ N ∧ (∀ y ∈ x.L, bd_wait N y)
theorem rdB_sema : RdB Try.prog Kd.sema 95 bd_sema := fun enc w B N hB fuel cs x hh hb => by
  have hh := flat_readB hB 6 95 [.int .i64, .int .i64, .bool, .slice 102] (by kernel_rfl) fuel cs x hh hb
  obtain ⟨_, r0, rfl, ⟨v0, rfl, _⟩, h0⟩ := hh.cons_inv
  obtain ⟨_, r1, rfl, ⟨v1, rfl, _⟩, h1⟩ := h0.cons_inv
  obtain ⟨_, r2, rfl, ⟨v2, rfl⟩, h2⟩ := h1.cons_inv
  obtain ⟨_, r3, rfl, hl3, h3⟩ := h2.cons_inv
  obtain ⟨A3, c3, v3, rfl, hs3, hn3, hx3⟩ := leaf_sliceB hB rdB_wait (by kernel_rfl) (by decide) hl3
  obtain rfl := h3.nil_inv
  exact ⟨⟨v0, v1, v2, v3⟩, ⟨A3, c3, rfl, hs3⟩, hn3, hx3⟩

def bd_event (N : Nat) (x : TEvent) : Prop := x.L.length ≤ N ∧ (∀ y ∈ x.L, bd_wait N y)
theorem rdB_event : RdB Try.prog Kd.event 97 bd_event := fun enc w B N hB fuel cs x hh hb => by
  have hh := flat_readB hB 6 97 [.bool, .slice 102] (by kernel_rfl) fuel cs x hh hb
  obtain ⟨_, r0, rfl, ⟨v0, rfl⟩, h0⟩ := hh.cons_inv
  obtain ⟨_, r1, rfl, hl1, h1⟩ := h0.cons_inv
  obtain ⟨A1, c1, v1, rfl, hs1, hn1, hx1⟩ := leaf_sliceB hB rdB_wait (by kernel_rfl) (by decide) hl1
  obtain rfl := h1.nil_inv
  exact ⟨⟨v0, v1⟩, ⟨A1, c1, rfl, hs1⟩, hn1, hx1⟩

def bd_sample (N : Nat) (x : TSample) : Prop := True
theorem rdB_sample : RdB Try.prog Kd.sample 56 bd_sample := fun enc w B N hB fuel cs x hh hb => by
  have hh := flat_readB hB 6 56 [.bool, .int .i64, .int .i64] (by kernel_rfl) fuel cs x hh hb
  obtain ⟨_, r0, rfl, ⟨v0, rfl⟩, h0⟩ := hh.cons_inv
  obtain ⟨_, r1, rfl, ⟨v1, rfl, _⟩, h1⟩ := h0.cons_inv
  obtain ⟨_, r2, rfl, ⟨v2, rfl, _⟩, h2⟩ := h1.cons_inv
  obtain rfl := h2.nil_inv
  exact ⟨⟨v0, v1, v2⟩, rfl, trivial⟩

def bd_queue (N : Nat) (x : TQueue) : Prop := x.Values.length ≤ N ∧ (∀ y ∈ x.Values, True)
theorem rdB_queue : RdB Try.prog Kd.queue 52 bd_queue := fun enc w B N hB fuel cs x hh hb => by
  have hh := flat_readB hB 6 52 [.int .i64, .slice 3, .int .i64] (by kernel_rfl) fuel cs x hh hb
  obtain ⟨_, r0, rfl, ⟨v0, rfl, _⟩, h0⟩ := hh.cons_inv
  obtain ⟨_, r1, rfl, hl1, h1⟩ := h0.cons_inv
  obtain ⟨A1, c1, v1, rfl, hs1, hn1, hx1⟩ := leaf_sliceB hB (rdB_int Try.underlying3) (by kernel_rfl) (by decide) hl1
  obtain ⟨_, r2, rfl, ⟨v2, rfl, _⟩, h2⟩ := h1.cons_inv
  obtain rfl := h2.nil_inv
  exact ⟨⟨v0, v1, v2⟩, ⟨A1, c1, rfl, hs1⟩, hn1, hx1⟩

def bd_part (N : Nat) (x : TPart) : Prop := x.Memory.length ≤ N ∧ (∀ y ∈ x.Memory, True) ∧ x.Procs.length ≤ N ∧ (∀ y ∈ x.Procs, bd_proc N y) ∧ x.Boards.length ≤ N ∧ (∀ y ∈ x.Boards, bd_board N y) ∧ x.Buffers.length ≤ N ∧ (∀ y ∈ x.Buffers, bd_buffer N y) ∧ x.Semas.length ≤ N ∧ (∀ y ∈ x.Semas, bd_sema N y) ∧ x.Events.length ≤ N ∧ (∀ y ∈ x.Events, bd_event N y) ∧ x.Samples.length ≤ N ∧ (∀ y ∈ x.Samples, bd_sample N y) ∧ x.Queues.length ≤ N ∧ (∀ y ∈ x.Queues, bd_queue N y) ∧ x.Latch.Lines.length ≤ N ∧ (∀ y ∈ x.Latch.Lines, True) ∧ x.Given.length ≤ N ∧ (∀ y ∈ x.Given, True)
theorem rdB_part : RdB Try.prog Kd.part 48 bd_part := fun enc w B N hB fuel cs x hh hb => by
  have hh := flat_readB hB 6 48 [.int .i64, .int .i64, .int .i64, .slice 3, .slice 81, .slice 91, .slice 93, .slice 95, .slice 97, .slice 56, .slice 52, .int .i64, .slice 3, .int .i64, .slice 3] (by kernel_rfl) fuel cs x hh hb
  obtain ⟨_, r0, rfl, ⟨v0, rfl, _⟩, h0⟩ := hh.cons_inv
  obtain ⟨_, r1, rfl, ⟨v1, rfl, _⟩, h1⟩ := h0.cons_inv
  obtain ⟨_, r2, rfl, ⟨v2, rfl, _⟩, h2⟩ := h1.cons_inv
  obtain ⟨_, r3, rfl, hl3, h3⟩ := h2.cons_inv
  obtain ⟨A3, c3, v3, rfl, hs3, hn3, hx3⟩ := leaf_sliceB hB (rdB_int Try.underlying3) (by kernel_rfl) (by decide) hl3
  obtain ⟨_, r4, rfl, hl4, h4⟩ := h3.cons_inv
  obtain ⟨A4, c4, v4, rfl, hs4, hn4, hx4⟩ := leaf_sliceB hB rdB_proc (by kernel_rfl) (by decide) hl4
  obtain ⟨_, r5, rfl, hl5, h5⟩ := h4.cons_inv
  obtain ⟨A5, c5, v5, rfl, hs5, hn5, hx5⟩ := leaf_sliceB hB rdB_board (by kernel_rfl) (by decide) hl5
  obtain ⟨_, r6, rfl, hl6, h6⟩ := h5.cons_inv
  obtain ⟨A6, c6, v6, rfl, hs6, hn6, hx6⟩ := leaf_sliceB hB rdB_buffer (by kernel_rfl) (by decide) hl6
  obtain ⟨_, r7, rfl, hl7, h7⟩ := h6.cons_inv
  obtain ⟨A7, c7, v7, rfl, hs7, hn7, hx7⟩ := leaf_sliceB hB rdB_sema (by kernel_rfl) (by decide) hl7
  obtain ⟨_, r8, rfl, hl8, h8⟩ := h7.cons_inv
  obtain ⟨A8, c8, v8, rfl, hs8, hn8, hx8⟩ := leaf_sliceB hB rdB_event (by kernel_rfl) (by decide) hl8
  obtain ⟨_, r9, rfl, hl9, h9⟩ := h8.cons_inv
  obtain ⟨A9, c9, v9, rfl, hs9, hn9, hx9⟩ := leaf_sliceB hB rdB_sample (by kernel_rfl) (by decide) hl9
  obtain ⟨_, r10, rfl, hl10, h10⟩ := h9.cons_inv
  obtain ⟨A10, c10, v10, rfl, hs10, hn10, hx10⟩ := leaf_sliceB hB rdB_queue (by kernel_rfl) (by decide) hl10
  obtain ⟨_, r11, rfl, ⟨v11, rfl, _⟩, h11⟩ := h10.cons_inv
  obtain ⟨_, r12, rfl, hl12, h12⟩ := h11.cons_inv
  obtain ⟨A12, c12, v12, rfl, hs12, hn12, hx12⟩ := leaf_sliceB hB (rdB_int Try.underlying3) (by kernel_rfl) (by decide) hl12
  obtain ⟨_, r13, rfl, ⟨v13, rfl, _⟩, h13⟩ := h12.cons_inv
  obtain ⟨_, r14, rfl, hl14, h14⟩ := h13.cons_inv
  obtain ⟨A14, c14, v14, rfl, hs14, hn14, hx14⟩ := leaf_sliceB hB (rdB_int Try.underlying3) (by kernel_rfl) (by decide) hl14
  obtain rfl := h14.nil_inv
  exact ⟨⟨v0, v1, v2, v3, v4, v5, v6, v7, v8, v9, v10, ⟨v11, v12, v13⟩, v14⟩, ⟨A3, c3, A4, c4, A5, c5, A6, c6, A7, c7, A8, c8, A9, c9, A10, c10, A12, c12, A14, c14, rfl, hs3, hs4, hs5, hs6, hs7, hs8, hs9, hs10, hs12, hs14⟩, hn3, hx3, hn4, hx4, hn5, hx5, hn6, hx6, hn7, hx7, hn8, hx8, hn9, hx9, hn10, hx10, hn12, hx12, hn14, hx14⟩

theorem rdB_s28 : RdB Try.prog (Kd.slice Kd.part (by decide)) 28 (fun N (xs : List TPart) => xs.length ≤ N ∧ ∀ x ∈ xs, bd_part N x) := fun enc w B N hB fuel cs x h hb => by
  obtain ⟨c, r, rfl, hl, h2⟩ := (flat_readB hB 1 28 [.slice 48] (by kernel_rfl) fuel cs x h hb).cons_inv
  rw [h2.nil_inv]
  obtain ⟨A, c, xs, rfl, hx, hn, hbx⟩ := leaf_sliceB hB rdB_part (by kernel_rfl) (by decide) hl
  exact ⟨xs, ⟨A, c, rfl, hx⟩, hn, hbx⟩

end Go.Proofs.Ytfhghnhgcdiknaa
