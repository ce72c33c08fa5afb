/- What the arguments' readings say of their cells. No condition. -/
import Derived.Test.YtcapkhhflhpnpaaRead
import Derived.Test.YtcapkhhflhpnpaaRows
import Derived.KernelRfl
namespace Go.Proofs.Ytcapkhhflhpnpaa
open Go.RowKit
theorem rd_proc : Rd Try.prog Kd.proc 33 := fun enc w fuel cs x hh => by
  have hh := flat_read 6 33 [.int .i64, .int .i64, .bool, .int .i64, .int .i64, .int .i64, .int .i64, .int .i64, .int .i64, .int .i64, .int .i64, .int .i64, .int .i64, .int .i64, .bool, .int .i64, .int .i64, .int .i64] (by kernel_rfl) fuel cs x hh
  obtain ⟨_, r0, rfl, ⟨v0, rfl, _⟩, h0⟩ := hh.cons_inv
  obtain ⟨_, r1, rfl, ⟨v1, rfl, _⟩, h1⟩ := h0.cons_inv
  obtain ⟨_, r2, rfl, ⟨v2, rfl⟩, h2⟩ := h1.cons_inv
  obtain ⟨_, r3, rfl, ⟨v3, rfl, _⟩, h3⟩ := h2.cons_inv
  obtain ⟨_, r4, rfl, ⟨v4, rfl, _⟩, h4⟩ := h3.cons_inv
  obtain ⟨_, r5, rfl, ⟨v5, rfl, _⟩, h5⟩ := h4.cons_inv
  obtain ⟨_, r6, rfl, ⟨v6, rfl, _⟩, h6⟩ := h5.cons_inv
  obtain ⟨_, r7, rfl, ⟨v7, rfl, _⟩, h7⟩ := h6.cons_inv
  obtain ⟨_, r8, rfl, ⟨v8, rfl, _⟩, h8⟩ := h7.cons_inv
  obtain ⟨_, r9, rfl, ⟨v9, rfl, _⟩, h9⟩ := h8.cons_inv
  obtain ⟨_, r10, rfl, ⟨v10, rfl, _⟩, h10⟩ := h9.cons_inv
  obtain ⟨_, r11, rfl, ⟨v11, rfl, _⟩, h11⟩ := h10.cons_inv
  obtain ⟨_, r12, rfl, ⟨v12, rfl, _⟩, h12⟩ := h11.cons_inv
  obtain ⟨_, r13, rfl, ⟨v13, rfl, _⟩, h13⟩ := h12.cons_inv
  obtain ⟨_, r14, rfl, ⟨v14, rfl⟩, h14⟩ := h13.cons_inv
  obtain ⟨_, r15, rfl, ⟨v15, rfl, _⟩, h15⟩ := h14.cons_inv
  obtain ⟨_, r16, rfl, ⟨v16, rfl, _⟩, h16⟩ := h15.cons_inv
  obtain ⟨_, r17, rfl, ⟨v17, rfl, _⟩, h17⟩ := h16.cons_inv
  obtain rfl := h17.nil_inv
  exact ⟨⟨v0, v1, v2, ⟨v3, v4, v5, v6, v7⟩, v8, v9, v10, v11, v12, v13, v14, v15, v16, v17⟩, rfl⟩

theorem rd_s22 : Rd Try.prog (Kd.slice Kd.proc (by decide)) 22 := fun enc w fuel cs x h => by
  obtain ⟨c, r, rfl, hl, h2⟩ := (flat_read 1 22 [.slice 33] (by kernel_rfl) fuel cs x h).cons_inv
  rw [h2.nil_inv]
  obtain ⟨A, c, xs, rfl, hx⟩ := leaf_slice rd_proc (by kernel_rfl) (by decide) hl
  exact ⟨xs, A, c, rfl, hx⟩

end Go.Proofs.Ytcapkhhflhpnpaa
