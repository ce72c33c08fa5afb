/- What the arguments' readings say of their cells. No condition. -/
import Derived.Test.YtfhghnhgcdiknaaRead
import Derived.Test.YtfhghnhgcdiknaaRows
import Derived.KernelRfl
namespace Go.Proofs.Ytfhghnhgcdiknaa
open Go.RowKit
theorem rd_region : Rd Try.prog Kd.region 156 := fun enc w fuel cs x hh => by
  have hh := flat_read 6 156 [.int .i64, .int .i64, .bool] (by kernel_rfl) fuel cs x hh
  obtain ⟨_, r0, rfl, ⟨v0, rfl, _⟩, h0⟩ := hh.cons_inv
  obtain ⟨_, r1, rfl, ⟨v1, rfl, _⟩, h1⟩ := h0.cons_inv
  obtain ⟨_, r2, rfl, ⟨v2, rfl⟩, h2⟩ := h1.cons_inv
  obtain rfl := h2.nil_inv
  exact ⟨⟨v0, v1, v2⟩, rfl⟩

theorem rd_procConf : Rd Try.prog Kd.procConf 122 := fun enc w fuel cs x hh => by
  have hh := flat_read 6 122 [.int .i64, .int .i64, .int .i64, .int .i64, .bool] (by kernel_rfl) fuel cs x hh
  obtain ⟨_, r0, rfl, ⟨v0, rfl, _⟩, h0⟩ := hh.cons_inv
  obtain ⟨_, r1, rfl, ⟨v1, rfl, _⟩, h1⟩ := h0.cons_inv
  obtain ⟨_, r2, rfl, ⟨v2, rfl, _⟩, h2⟩ := h1.cons_inv
  obtain ⟨_, r3, rfl, ⟨v3, rfl, _⟩, h3⟩ := h2.cons_inv
  obtain ⟨_, r4, rfl, ⟨v4, rfl⟩, h4⟩ := h3.cons_inv
  obtain rfl := h4.nil_inv
  exact ⟨⟨v0, v1, v2, v3, v4⟩, rfl⟩

theorem rd_bufferConf : Rd Try.prog Kd.bufferConf 114 := fun enc w fuel cs x hh => by
  have hh := flat_read 6 114 [.int .i64, .bool] (by kernel_rfl) fuel cs x hh
  obtain ⟨_, r0, rfl, ⟨v0, rfl, _⟩, h0⟩ := hh.cons_inv
  obtain ⟨_, r1, rfl, ⟨v1, rfl⟩, h1⟩ := h0.cons_inv
  obtain rfl := h1.nil_inv
  exact ⟨⟨v0, v1⟩, rfl⟩

theorem rd_semaConf : Rd Try.prog Kd.semaConf 117 := fun enc w fuel cs x hh => by
  have hh := flat_read 6 117 [.int .i64, .int .i64, .bool] (by kernel_rfl) fuel cs x hh
  obtain ⟨_, r0, rfl, ⟨v0, rfl, _⟩, h0⟩ := hh.cons_inv
  obtain ⟨_, r1, rfl, ⟨v1, rfl, _⟩, h1⟩ := h0.cons_inv
  obtain ⟨_, r2, rfl, ⟨v2, rfl⟩, h2⟩ := h1.cons_inv
  obtain rfl := h2.nil_inv
  exact ⟨⟨v0, v1, v2⟩, rfl⟩

theorem rd_partConf : Rd Try.prog Kd.partConf 75 := fun enc w fuel cs x hh => by
  have hh := flat_read 6 75 [.int .i64, .slice 156, .slice 122, .int .i64, .slice 114, .slice 117, .int .i64, .slice 3, .slice 3, .int .i64, .slice 3] (by kernel_rfl) fuel cs x hh
  obtain ⟨_, r0, rfl, ⟨v0, rfl, _⟩, h0⟩ := hh.cons_inv
  obtain ⟨_, r1, rfl, hl1, h1⟩ := h0.cons_inv
  obtain ⟨A1, c1, v1, rfl, hs1⟩ := leaf_slice rd_region (by kernel_rfl) (by decide) hl1
  obtain ⟨_, r2, rfl, hl2, h2⟩ := h1.cons_inv
  obtain ⟨A2, c2, v2, rfl, hs2⟩ := leaf_slice rd_procConf (by kernel_rfl) (by decide) hl2
  obtain ⟨_, r3, rfl, ⟨v3, rfl, _⟩, h3⟩ := h2.cons_inv
  obtain ⟨_, r4, rfl, hl4, h4⟩ := h3.cons_inv
  obtain ⟨A4, c4, v4, rfl, hs4⟩ := leaf_slice rd_bufferConf (by kernel_rfl) (by decide) hl4
  obtain ⟨_, r5, rfl, hl5, h5⟩ := h4.cons_inv
  obtain ⟨A5, c5, v5, rfl, hs5⟩ := leaf_slice rd_semaConf (by kernel_rfl) (by decide) hl5
  obtain ⟨_, r6, rfl, ⟨v6, rfl, _⟩, h6⟩ := h5.cons_inv
  obtain ⟨_, r7, rfl, hl7, h7⟩ := h6.cons_inv
  obtain ⟨A7, c7, v7, rfl, hs7⟩ := leaf_slice (rd_int Try.underlying3) (by kernel_rfl) (by decide) hl7
  obtain ⟨_, r8, rfl, hl8, h8⟩ := h7.cons_inv
  obtain ⟨A8, c8, v8, rfl, hs8⟩ := leaf_slice (rd_int Try.underlying3) (by kernel_rfl) (by decide) hl8
  obtain ⟨_, r9, rfl, ⟨v9, rfl, _⟩, h9⟩ := h8.cons_inv
  obtain ⟨_, r10, rfl, hl10, h10⟩ := h9.cons_inv
  obtain ⟨A10, c10, v10, rfl, hs10⟩ := leaf_slice (rd_int Try.underlying3) (by kernel_rfl) (by decide) hl10
  obtain rfl := h10.nil_inv
  exact ⟨⟨v0, v1, v2, v3, v4, v5, v6, v7, v8, v9, v10⟩, A1, c1, A2, c2, A4, c4, A5, c5, A7, c7, A8, c8, A10, c10, rfl, hs1, hs2, hs4, hs5, hs7, hs8, hs10⟩

theorem rd_window : Rd Try.prog Kd.window 128 := fun enc w fuel cs x hh => by
  have hh := flat_read 6 128 [.int .i64, .int .i64, .int .i64] (by kernel_rfl) fuel cs x hh
  obtain ⟨_, r0, rfl, ⟨v0, rfl, _⟩, h0⟩ := hh.cons_inv
  obtain ⟨_, r1, rfl, ⟨v1, rfl, _⟩, h1⟩ := h0.cons_inv
  obtain ⟨_, r2, rfl, ⟨v2, rfl, _⟩, h2⟩ := h1.cons_inv
  obtain rfl := h2.nil_inv
  exact ⟨⟨v0, v1, v2⟩, rfl⟩

theorem rd_channel : Rd Try.prog Kd.channel 32 := fun enc w fuel cs x hh => by
  have hh := flat_read 6 32 [.bool, .int .i64, .int .i64, .int .i64, .int .i64] (by kernel_rfl) fuel cs x hh
  obtain ⟨_, r0, rfl, ⟨v0, rfl⟩, h0⟩ := hh.cons_inv
  obtain ⟨_, r1, rfl, ⟨v1, rfl, _⟩, h1⟩ := h0.cons_inv
  obtain ⟨_, r2, rfl, ⟨v2, rfl, _⟩, h2⟩ := h1.cons_inv
  obtain ⟨_, r3, rfl, ⟨v3, rfl, _⟩, h3⟩ := h2.cons_inv
  obtain ⟨_, r4, rfl, ⟨v4, rfl, _⟩, h4⟩ := h3.cons_inv
  obtain rfl := h4.nil_inv
  exact ⟨⟨v0, v1, v2, v3, v4⟩, rfl⟩

theorem rd_config : Rd Try.prog Kd.config 27 := fun enc w fuel cs x hh => by
  have hh := flat_read 6 27 [.int .i64, .int .i64, .slice 3, .slice 75, .slice 128, .slice 32] (by kernel_rfl) fuel cs x hh
  obtain ⟨_, r0, rfl, ⟨v0, rfl, _⟩, h0⟩ := hh.cons_inv
  obtain ⟨_, r1, rfl, ⟨v1, rfl, _⟩, h1⟩ := h0.cons_inv
  obtain ⟨_, r2, rfl, hl2, h2⟩ := h1.cons_inv
  obtain ⟨A2, c2, v2, rfl, hs2⟩ := leaf_slice (rd_int Try.underlying3) (by kernel_rfl) (by decide) hl2
  obtain ⟨_, r3, rfl, hl3, h3⟩ := h2.cons_inv
  obtain ⟨A3, c3, v3, rfl, hs3⟩ := leaf_slice rd_partConf (by kernel_rfl) (by decide) hl3
  obtain ⟨_, r4, rfl, hl4, h4⟩ := h3.cons_inv
  obtain ⟨A4, c4, v4, rfl, hs4⟩ := leaf_slice rd_window (by kernel_rfl) (by decide) hl4
  obtain ⟨_, r5, rfl, hl5, h5⟩ := h4.cons_inv
  obtain ⟨A5, c5, v5, rfl, hs5⟩ := leaf_slice rd_channel (by kernel_rfl) (by decide) hl5
  obtain rfl := h5.nil_inv
  exact ⟨⟨v0, v1, v2, v3, v4, v5⟩, A2, c2, A3, c3, A4, c4, A5, c5, rfl, hs2, hs3, hs4, hs5⟩

end Go.Proofs.Ytfhghnhgcdiknaa
