/- The program's structs as Lean structures, and how they lie in memory. No condition. -/
import Derived.Test.YtfhghnhgcdiknaaData
namespace Go.Proofs.Ytfhghnhgcdiknaa
open Go.RowKit
structure TRegion where
  From : Int
  Len : Int
  Write : Bool
  deriving DecidableEq, Inhabited
def Kd.region : Kd TRegion where
  sz := 3
  K := fun _ _ x cs => cs = [.int .i64 x.From, .int .i64 x.Len, .bool x.Write]
  len := by rintro w ok x cs rfl; rfl
  one := by
    rintro w ok x cs rfl u hu
    simp only [List.mem_cons, List.not_mem_nil, or_false] at hu
    rcases hu with rfl | rfl | rfl <;> rfl
  move := by rintro w w1 ok x cs _ rfl; exact rfl
  mono := by rintro w ok ok' x cs _ rfl; exact rfl

structure TProcConf where
  Prio : Int
  Period : Int
  Limit : Int
  Entry : Int
  Auto : Bool
  deriving DecidableEq, Inhabited
def Kd.procConf : Kd TProcConf where
  sz := 5
  K := fun _ _ x cs => cs = [.int .i64 x.Prio, .int .i64 x.Period, .int .i64 x.Limit, .int .i64 x.Entry, .bool x.Auto]
  len := by rintro w ok x cs rfl; rfl
  one := by
    rintro w ok x cs rfl u hu
    simp only [List.mem_cons, List.not_mem_nil, or_false] at hu
    rcases hu with rfl | rfl | rfl | rfl | rfl <;> rfl
  move := by rintro w w1 ok x cs _ rfl; exact rfl
  mono := by rintro w ok ok' x cs _ rfl; exact rfl

structure TBufferConf where
  Depth : Int
  Ranked : Bool
  deriving DecidableEq, Inhabited
def Kd.bufferConf : Kd TBufferConf where
  sz := 2
  K := fun _ _ x cs => cs = [.int .i64 x.Depth, .bool x.Ranked]
  len := by rintro w ok x cs rfl; rfl
  one := by
    rintro w ok x cs rfl u hu
    simp only [List.mem_cons, List.not_mem_nil, or_false] at hu
    rcases hu with rfl | rfl <;> rfl
  move := by rintro w w1 ok x cs _ rfl; exact rfl
  mono := by rintro w ok ok' x cs _ rfl; exact rfl

structure TSemaConf where
  Count : Int
  Most : Int
  Ranked : Bool
  deriving DecidableEq, Inhabited
def Kd.semaConf : Kd TSemaConf where
  sz := 3
  K := fun _ _ x cs => cs = [.int .i64 x.Count, .int .i64 x.Most, .bool x.Ranked]
  len := by rintro w ok x cs rfl; rfl
  one := by
    rintro w ok x cs rfl u hu
    simp only [List.mem_cons, List.not_mem_nil, or_false] at hu
    rcases hu with rfl | rfl | rfl <;> rfl
  move := by rintro w w1 ok x cs _ rfl; exact rfl
  mono := by rintro w ok ok' x cs _ rfl; exact rfl

structure TPartConf where
  Words : Int
  Regions : List TRegion
  Procs : List TProcConf
  Boards : Int
  Buffers : List TBufferConf
  Semas : List TSemaConf
  Events : Int
  Samples : List Int
  Queues : List Int
  Latch : Int
  Table : List Int
  deriving DecidableEq, Inhabited
def Kd.partConf : Kd TPartConf where
  sz := 11
  K := fun w ok x cs => ∃ A1 c1 A2 c2 A4 c4 A5 c5 A7 c7 A8 c8 A10 c10, cs = [.int .i64 x.Words, .slice A1 x.Regions.length c1, .slice A2 x.Procs.length c2, .int .i64 x.Boards, .slice A4 x.Buffers.length c4, .slice A5 x.Semas.length c5, .int .i64 x.Events, .slice A7 x.Samples.length c7, .slice A8 x.Queues.length c8, .int .i64 x.Latch, .slice A10 x.Table.length c10] ∧ Sl Kd.region w ok A1 c1 x.Regions ∧ Sl Kd.procConf w ok A2 c2 x.Procs ∧ Sl Kd.bufferConf w ok A4 c4 x.Buffers ∧ Sl Kd.semaConf w ok A5 c5 x.Semas ∧ Sl Kd.int w ok A7 c7 x.Samples ∧ Sl Kd.int w ok A8 c8 x.Queues ∧ Sl Kd.int w ok A10 c10 x.Table
  len := by rintro w ok x cs ⟨A1, c1, A2, c2, A4, c4, A5, c5, A7, c7, A8, c8, A10, c10, rfl, _h1, _h2, _h4, _h5, _h7, _h8, _h10⟩; rfl
  one := by
    rintro w ok x cs ⟨A1, c1, A2, c2, A4, c4, A5, c5, A7, c7, A8, c8, A10, c10, rfl, _h1, _h2, _h4, _h5, _h7, _h8, _h10⟩ u hu
    simp only [List.mem_cons, List.not_mem_nil, or_false] at hu
    rcases hu with rfl | rfl | rfl | rfl | rfl | rfl | rfl | rfl | rfl | rfl | rfl <;> rfl
  move := by rintro w w1 ok x cs hm ⟨A1, c1, A2, c2, A4, c4, A5, c5, A7, c7, A8, c8, A10, c10, rfl, h1, h2, h4, h5, h7, h8, h10⟩; exact ⟨A1, c1, A2, c2, A4, c4, A5, c5, A7, c7, A8, c8, A10, c10, rfl, h1.move hm, h2.move hm, h4.move hm, h5.move hm, h7.move hm, h8.move hm, h10.move hm⟩
  mono := by rintro w ok ok' x cs hi ⟨A1, c1, A2, c2, A4, c4, A5, c5, A7, c7, A8, c8, A10, c10, rfl, h1, h2, h4, h5, h7, h8, h10⟩; exact ⟨A1, c1, A2, c2, A4, c4, A5, c5, A7, c7, A8, c8, A10, c10, rfl, h1.mono hi (by decide), h2.mono hi (by decide), h4.mono hi (by decide), h5.mono hi (by decide), h7.mono hi (by decide), h8.mono hi (by decide), h10.mono hi (by decide)⟩

structure TWindow where
  Part : Int
  Start : Int
  Len : Int
  deriving DecidableEq, Inhabited
def Kd.window : Kd TWindow where
  sz := 3
  K := fun _ _ x cs => cs = [.int .i64 x.Part, .int .i64 x.Start, .int .i64 x.Len]
  len := by rintro w ok x cs rfl; rfl
  one := by
    rintro w ok x cs rfl u hu
    simp only [List.mem_cons, List.not_mem_nil, or_false] at hu
    rcases hu with rfl | rfl | rfl <;> rfl
  move := by rintro w w1 ok x cs _ rfl; exact rfl
  mono := by rintro w ok ok' x cs _ rfl; exact rfl

structure TChannel where
  Queuing : Bool
  From : Int
  A : Int
  To : Int
  B : Int
  deriving DecidableEq, Inhabited
def Kd.channel : Kd TChannel where
  sz := 5
  K := fun _ _ x cs => cs = [.bool x.Queuing, .int .i64 x.From, .int .i64 x.A, .int .i64 x.To, .int .i64 x.B]
  len := by rintro w ok x cs rfl; rfl
  one := by
    rintro w ok x cs rfl u hu
    simp only [List.mem_cons, List.not_mem_nil, or_false] at hu
    rcases hu with rfl | rfl | rfl | rfl | rfl <;> rfl
  move := by rintro w w1 ok x cs _ rfl; exact rfl
  mono := by rintro w ok ok' x cs _ rfl; exact rfl

structure TConfig where
  Frame : Int
  Switch : Int
  Lines : List Int
  Parts : List TPartConf
  Windows : List TWindow
  Channels : List TChannel
  deriving DecidableEq, Inhabited
def Kd.config : Kd TConfig where
  sz := 6
  K := fun w ok x cs => ∃ A2 c2 A3 c3 A4 c4 A5 c5, cs = [.int .i64 x.Frame, .int .i64 x.Switch, .slice A2 x.Lines.length c2, .slice A3 x.Parts.length c3, .slice A4 x.Windows.length c4, .slice A5 x.Channels.length c5] ∧ Sl Kd.int w ok A2 c2 x.Lines ∧ Sl Kd.partConf w ok A3 c3 x.Parts ∧ Sl Kd.window w ok A4 c4 x.Windows ∧ Sl Kd.channel w ok A5 c5 x.Channels
  len := by rintro w ok x cs ⟨A2, c2, A3, c3, A4, c4, A5, c5, rfl, _h2, _h3, _h4, _h5⟩; rfl
  one := by
    rintro w ok x cs ⟨A2, c2, A3, c3, A4, c4, A5, c5, rfl, _h2, _h3, _h4, _h5⟩ u hu
    simp only [List.mem_cons, List.not_mem_nil, or_false] at hu
    rcases hu with rfl | rfl | rfl | rfl | rfl | rfl <;> rfl
  move := by rintro w w1 ok x cs hm ⟨A2, c2, A3, c3, A4, c4, A5, c5, rfl, h2, h3, h4, h5⟩; exact ⟨A2, c2, A3, c3, A4, c4, A5, c5, rfl, h2.move hm, h3.move hm, h4.move hm, h5.move hm⟩
  mono := by rintro w ok ok' x cs hi ⟨A2, c2, A3, c3, A4, c4, A5, c5, rfl, h2, h3, h4, h5⟩; exact ⟨A2, c2, A3, c3, A4, c4, A5, c5, rfl, h2.mono hi (by decide), h3.mono hi (by decide), h4.mono hi (by decide), h5.mono hi (by decide)⟩

structure TLatch where
  Depth : Int
  Lines : List Int
  Dropped : Int
  deriving DecidableEq, Inhabited
def Kd.latch : Kd TLatch where
  sz := 3
  K := fun w ok x cs => ∃ A1 c1, cs = [.int .i64 x.Depth, .slice A1 x.Lines.length c1, .int .i64 x.Dropped] ∧ Sl Kd.int w ok A1 c1 x.Lines
  len := by rintro w ok x cs ⟨A1, c1, rfl, _h1⟩; rfl
  one := by
    rintro w ok x cs ⟨A1, c1, rfl, _h1⟩ u hu
    simp only [List.mem_cons, List.not_mem_nil, or_false] at hu
    rcases hu with rfl | rfl | rfl <;> rfl
  move := by rintro w w1 ok x cs hm ⟨A1, c1, rfl, h1⟩; exact ⟨A1, c1, rfl, h1.move hm⟩
  mono := by rintro w ok ok' x cs hi ⟨A1, c1, rfl, h1⟩; exact ⟨A1, c1, rfl, h1.mono hi (by decide)⟩

structure TCore where
  PC : Int
  R0 : Int
  R1 : Int
  R2 : Int
  R3 : Int
  deriving DecidableEq, Inhabited
def Kd.core : Kd TCore where
  sz := 5
  K := fun _ _ x cs => cs = [.int .i64 x.PC, .int .i64 x.R0, .int .i64 x.R1, .int .i64 x.R2, .int .i64 x.R3]
  len := by rintro w ok x cs rfl; rfl
  one := by
    rintro w ok x cs rfl u hu
    simp only [List.mem_cons, List.not_mem_nil, or_false] at hu
    rcases hu with rfl | rfl | rfl | rfl | rfl <;> rfl
  move := by rintro w w1 ok x cs _ rfl; exact rfl
  mono := by rintro w ok ok' x cs _ rfl; exact rfl

structure TProc where
  State : Int
  Prio : Int
  Suspended : Bool
  C : TCore
  Since : Int
  Until : Int
  Kind : Int
  Object : Int
  Due : Int
  Next : Int
  Pending : Bool
  Code : Int
  Value : Int
  Call : Int
  deriving DecidableEq, Inhabited
def Kd.proc : Kd TProc where
  sz := 18
  K := fun _ _ x cs => cs = [.int .i64 x.State, .int .i64 x.Prio, .bool x.Suspended, .int .i64 x.C.PC, .int .i64 x.C.R0, .int .i64 x.C.R1, .int .i64 x.C.R2, .int .i64 x.C.R3, .int .i64 x.Since, .int .i64 x.Until, .int .i64 x.Kind, .int .i64 x.Object, .int .i64 x.Due, .int .i64 x.Next, .bool x.Pending, .int .i64 x.Code, .int .i64 x.Value, .int .i64 x.Call]
  len := by rintro w ok x cs rfl; rfl
  one := by
    rintro w ok x cs rfl u hu
    simp only [List.mem_cons, List.not_mem_nil, or_false] at hu
    rcases hu with rfl | rfl | rfl | rfl | rfl | rfl | rfl | rfl | rfl | rfl | rfl | rfl | rfl | rfl | rfl | rfl | rfl | rfl <;> rfl
  move := by rintro w w1 ok x cs _ rfl; exact rfl
  mono := by rintro w ok ok' x cs _ rfl; exact rfl

structure TWait where
  Proc : Int
  Prio : Int
  Value : Int
  deriving DecidableEq, Inhabited
def Kd.wait : Kd TWait where
  sz := 3
  K := fun _ _ x cs => cs = [.int .i64 x.Proc, .int .i64 x.Prio, .int .i64 x.Value]
  len := by rintro w ok x cs rfl; rfl
  one := by
    rintro w ok x cs rfl u hu
    simp only [List.mem_cons, List.not_mem_nil, or_false] at hu
    rcases hu with rfl | rfl | rfl <;> rfl
  move := by rintro w w1 ok x cs _ rfl; exact rfl
  mono := by rintro w ok ok' x cs _ rfl; exact rfl

structure TBoard where
  Is : Bool
  Value : Int
  L : List TWait
  deriving DecidableEq, Inhabited
def Kd.board : Kd TBoard where
  sz := 3
  K := fun w ok x cs => ∃ A2 c2, cs = [.bool x.Is, .int .i64 x.Value, .slice A2 x.L.length c2] ∧ Sl Kd.wait w ok A2 c2 x.L
  len := by rintro w ok x cs ⟨A2, c2, rfl, _h2⟩; rfl
  one := by
    rintro w ok x cs ⟨A2, c2, rfl, _h2⟩ u hu
    simp only [List.mem_cons, List.not_mem_nil, or_false] at hu
    rcases hu with rfl | rfl | rfl <;> rfl
  move := by rintro w w1 ok x cs hm ⟨A2, c2, rfl, h2⟩; exact ⟨A2, c2, rfl, h2.move hm⟩
  mono := by rintro w ok ok' x cs hi ⟨A2, c2, rfl, h2⟩; exact ⟨A2, c2, rfl, h2.mono hi (by decide)⟩

structure TBuffer where
  Depth : Int
  Ranked : Bool
  Values : List Int
  L : List TWait
  deriving DecidableEq, Inhabited
def Kd.buffer : Kd TBuffer where
  sz := 4
  K := fun w ok x cs => ∃ A2 c2 A3 c3, cs = [.int .i64 x.Depth, .bool x.Ranked, .slice A2 x.Values.length c2, .slice A3 x.L.length c3] ∧ Sl Kd.int w ok A2 c2 x.Values ∧ Sl Kd.wait w ok A3 c3 x.L
  len := by rintro w ok x cs ⟨A2, c2, A3, c3, rfl, _h2, _h3⟩; rfl
  one := by
    rintro w ok x cs ⟨A2, c2, A3, c3, rfl, _h2, _h3⟩ u hu
    simp only [List.mem_cons, List.not_mem_nil, or_false] at hu
    rcases hu with rfl | rfl | rfl | rfl <;> rfl
  move := by rintro w w1 ok x cs hm ⟨A2, c2, A3, c3, rfl, h2, h3⟩; exact ⟨A2, c2, A3, c3, rfl, h2.move hm, h3.move hm⟩
  mono := by rintro w ok ok' x cs hi ⟨A2, c2, A3, c3, rfl, h2, h3⟩; exact ⟨A2, c2, A3, c3, rfl, h2.mono hi (by decide), h3.mono hi (by decide)⟩

structure TSema where
  Count : Int
  Most : Int
  Ranked : Bool
  L : List TWait
  deriving DecidableEq, Inhabited
def Kd.sema : Kd TSema where
  sz := 4
  K := fun w ok x cs => ∃ A3 c3, cs = [.int .i64 x.Count, .int .i64 x.Most, .bool x.Ranked, .slice A3 x.L.length c3] ∧ Sl Kd.wait w ok A3 c3 x.L
  len := by rintro w ok x cs ⟨A3, c3, rfl, _h3⟩; rfl
  one := by
    rintro w ok x cs ⟨A3, c3, rfl, _h3⟩ u hu
    simp only [List.mem_cons, List.not_mem_nil, or_false] at hu
    rcases hu with rfl | rfl | rfl | rfl <;> rfl
  move := by rintro w w1 ok x cs hm ⟨A3, c3, rfl, h3⟩; exact ⟨A3, c3, rfl, h3.move hm⟩
  mono := by rintro w ok ok' x cs hi ⟨A3, c3, rfl, h3⟩; exact ⟨A3, c3, rfl, h3.mono hi (by decide)⟩

structure TEvent where
  Up : Bool
  L : List TWait
  deriving DecidableEq, Inhabited
def Kd.event : Kd TEvent where
  sz := 2
  K := fun w ok x cs => ∃ A1 c1, cs = [.bool x.Up, .slice A1 x.L.length c1] ∧ Sl Kd.wait w ok A1 c1 x.L
  len := by rintro w ok x cs ⟨A1, c1, rfl, _h1⟩; rfl
  one := by
    rintro w ok x cs ⟨A1, c1, rfl, _h1⟩ u hu
    simp only [List.mem_cons, List.not_mem_nil, or_false] at hu
    rcases hu with rfl | rfl <;> rfl
  move := by rintro w w1 ok x cs hm ⟨A1, c1, rfl, h1⟩; exact ⟨A1, c1, rfl, h1.move hm⟩
  mono := by rintro w ok ok' x cs hi ⟨A1, c1, rfl, h1⟩; exact ⟨A1, c1, rfl, h1.mono hi (by decide)⟩

structure TSample where
  Is : Bool
  Value : Int
  At : Int
  deriving DecidableEq, Inhabited
def Kd.sample : Kd TSample where
  sz := 3
  K := fun _ _ x cs => cs = [.bool x.Is, .int .i64 x.Value, .int .i64 x.At]
  len := by rintro w ok x cs rfl; rfl
  one := by
    rintro w ok x cs rfl u hu
    simp only [List.mem_cons, List.not_mem_nil, or_false] at hu
    rcases hu with rfl | rfl | rfl <;> rfl
  move := by rintro w w1 ok x cs _ rfl; exact rfl
  mono := by rintro w ok ok' x cs _ rfl; exact rfl

structure TQueue where
  Depth : Int
  Values : List Int
  Lost : Int
  deriving DecidableEq, Inhabited
def Kd.queue : Kd TQueue where
  sz := 3
  K := fun w ok x cs => ∃ A1 c1, cs = [.int .i64 x.Depth, .slice A1 x.Values.length c1, .int .i64 x.Lost] ∧ Sl Kd.int w ok A1 c1 x.Values
  len := by rintro w ok x cs ⟨A1, c1, rfl, _h1⟩; rfl
  one := by
    rintro w ok x cs ⟨A1, c1, rfl, _h1⟩ u hu
    simp only [List.mem_cons, List.not_mem_nil, or_false] at hu
    rcases hu with rfl | rfl | rfl <;> rfl
  move := by rintro w w1 ok x cs hm ⟨A1, c1, rfl, h1⟩; exact ⟨A1, c1, rfl, h1.move hm⟩
  mono := by rintro w ok ok' x cs hi ⟨A1, c1, rfl, h1⟩; exact ⟨A1, c1, rfl, h1.mono hi (by decide)⟩

structure TPart where
  Mode : Int
  Begun : Int
  Next : Int
  Memory : List Int
  Procs : List TProc
  Boards : List TBoard
  Buffers : List TBuffer
  Semas : List TSema
  Events : List TEvent
  Samples : List TSample
  Queues : List TQueue
  Latch : TLatch
  Given : List Int
  deriving DecidableEq, Inhabited
def Kd.part : Kd TPart where
  sz := 15
  K := fun w ok x cs => ∃ A3 c3 A4 c4 A5 c5 A6 c6 A7 c7 A8 c8 A9 c9 A10 c10 A12 c12 A14 c14, cs = [.int .i64 x.Mode, .int .i64 x.Begun, .int .i64 x.Next, .slice A3 x.Memory.length c3, .slice A4 x.Procs.length c4, .slice A5 x.Boards.length c5, .slice A6 x.Buffers.length c6, .slice A7 x.Semas.length c7, .slice A8 x.Events.length c8, .slice A9 x.Samples.length c9, .slice A10 x.Queues.length c10, .int .i64 x.Latch.Depth, .slice A12 x.Latch.Lines.length c12, .int .i64 x.Latch.Dropped, .slice A14 x.Given.length c14] ∧ Sl Kd.int w ok A3 c3 x.Memory ∧ Sl Kd.proc w ok A4 c4 x.Procs ∧ Sl Kd.board w ok A5 c5 x.Boards ∧ Sl Kd.buffer w ok A6 c6 x.Buffers ∧ Sl Kd.sema w ok A7 c7 x.Semas ∧ Sl Kd.event w ok A8 c8 x.Events ∧ Sl Kd.sample w ok A9 c9 x.Samples ∧ Sl Kd.queue w ok A10 c10 x.Queues ∧ Sl Kd.int w ok A12 c12 x.Latch.Lines ∧ Sl Kd.int w ok A14 c14 x.Given
  len := by rintro w ok x cs ⟨A3, c3, A4, c4, A5, c5, A6, c6, A7, c7, A8, c8, A9, c9, A10, c10, A12, c12, A14, c14, rfl, _h3, _h4, _h5, _h6, _h7, _h8, _h9, _h10, _h12, _h14⟩; rfl
  one := by
    rintro w ok x cs ⟨A3, c3, A4, c4, A5, c5, A6, c6, A7, c7, A8, c8, A9, c9, A10, c10, A12, c12, A14, c14, rfl, _h3, _h4, _h5, _h6, _h7, _h8, _h9, _h10, _h12, _h14⟩ u hu
    simp only [List.mem_cons, List.not_mem_nil, or_false] at hu
    rcases hu with rfl | rfl | rfl | rfl | rfl | rfl | rfl | rfl | rfl | rfl | rfl | rfl | rfl | rfl | rfl <;> rfl
  move := by rintro w w1 ok x cs hm ⟨A3, c3, A4, c4, A5, c5, A6, c6, A7, c7, A8, c8, A9, c9, A10, c10, A12, c12, A14, c14, rfl, h3, h4, h5, h6, h7, h8, h9, h10, h12, h14⟩; exact ⟨A3, c3, A4, c4, A5, c5, A6, c6, A7, c7, A8, c8, A9, c9, A10, c10, A12, c12, A14, c14, rfl, h3.move hm, h4.move hm, h5.move hm, h6.move hm, h7.move hm, h8.move hm, h9.move hm, h10.move hm, h12.move hm, h14.move hm⟩
  mono := by rintro w ok ok' x cs hi ⟨A3, c3, A4, c4, A5, c5, A6, c6, A7, c7, A8, c8, A9, c9, A10, c10, A12, c12, A14, c14, rfl, h3, h4, h5, h6, h7, h8, h9, h10, h12, h14⟩; exact ⟨A3, c3, A4, c4, A5, c5, A6, c6, A7, c7, A8, c8, A9, c9, A10, c10, A12, c12, A14, c14, rfl, h3.mono hi (by decide), h4.mono hi (by decide), h5.mono hi (by decide), h6.mono hi (by decide), h7.mono hi (by decide), h8.mono hi (by decide), h9.mono hi (by decide), h10.mono hi (by decide), h12.mono hi (by decide), h14.mono hi (by decide)⟩

structure Tport where
  Queuing : Bool
  Part : Int
  At : Int
  deriving DecidableEq, Inhabited
def Kd.port : Kd Tport where
  sz := 3
  K := fun _ _ x cs => cs = [.bool x.Queuing, .int .i64 x.Part, .int .i64 x.At]
  len := by rintro w ok x cs rfl; rfl
  one := by
    rintro w ok x cs rfl u hu
    simp only [List.mem_cons, List.not_mem_nil, or_false] at hu
    rcases hu with rfl | rfl | rfl <;> rfl
  move := by rintro w w1 ok x cs _ rfl; exact rfl
  mono := by rintro w ok ok' x cs _ rfl; exact rfl

end Go.Proofs.Ytfhghnhgcdiknaa
