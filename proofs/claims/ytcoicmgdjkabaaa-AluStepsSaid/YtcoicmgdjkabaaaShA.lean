/-
  A part of the proof: ShA.
-/
import Derived.Test.YtcoicmgdjkabaaaSh11
import Derived.Test.YtcoicmgdjkabaaaProg
namespace Go.Proofs.Ytcoicmgdjkabaaa
open Go Go.Sh Go.Proofs
theorem te_2 : TyOk Try.prog 2 ⟨.int .i64 0, 1, 8, .sc (.int .i64)⟩ := ⟨fun _ => by kernel_rfl, ⟨rfl, rfl, fun _ _ => by simp [Wf]⟩, ⟨Try.underlying2, rfl⟩⟩
theorem te_3 : TyOk Try.prog 3 ⟨.int .i64 0, 1, 8, .sc (.int .i64)⟩ := ⟨fun _ => by kernel_rfl, ⟨rfl, rfl, fun _ _ => by simp [Wf]⟩, ⟨Try.underlying3, rfl⟩⟩
theorem te_4 : TyOk Try.prog 4 ⟨.bool false, 1, 1, .sc (.bool)⟩ := ⟨fun _ => by kernel_rfl, ⟨rfl, rfl, fun _ _ => by simp [Wf]⟩, ⟨Try.underlying4, rfl⟩⟩
theorem te_5 : TyOk Try.prog 5 ⟨.int .u8 0, 1, 1, .sc (.int .u8)⟩ := ⟨fun _ => by kernel_rfl, ⟨rfl, rfl, fun _ _ => by simp [Wf]⟩, ⟨Try.underlying5, rfl⟩⟩
theorem te_21 : TyOk Try.prog 21 ⟨.int .i32 0, 1, 4, .sc (.int .i32)⟩ := ⟨fun _ => by kernel_rfl, ⟨rfl, rfl, fun _ _ => by simp [Wf]⟩, ⟨Try.underlying21, rfl⟩⟩
theorem te_22 : TyOk Try.prog 22 ⟨.int .u64 0, 1, 8, .sc (.int .u64)⟩ := ⟨fun _ => by kernel_rfl, ⟨rfl, rfl, fun _ _ => by simp [Wf]⟩, ⟨Try.underlying22, rfl⟩⟩
theorem te_30 : TyOk Try.prog 30 ⟨.int .u64 0, 1, 8, .sc (.int .u64)⟩ := ⟨fun _ => by kernel_rfl, ⟨rfl, rfl, fun _ _ => by simp [Wf]⟩, ⟨Try.underlying30, rfl⟩⟩
theorem te_37 : TyOk Try.prog 37 ⟨.int .u32 0, 1, 4, .sc (.int .u32)⟩ := ⟨fun _ => by kernel_rfl, ⟨rfl, rfl, fun _ _ => by simp [Wf]⟩, ⟨Try.underlying37, rfl⟩⟩
theorem te_38 : TyOk Try.prog 38 ⟨.ints .i64 12 (fun _ => 0), 12, 96, .ar 12 3 1 false⟩ := ⟨fun _ => by kernel_rfl, ⟨rfl, rfl, fun _ _ => by simp [Wf]⟩, ⟨Try.underlying38, by kernel_rfl, by kernel_rfl⟩⟩
theorem te_39 : TyOk Try.prog 39 ⟨.ints .i64 70 (fun _ => 0), 70, 560, .ar 70 3 1 false⟩ := ⟨fun _ => by kernel_rfl, ⟨rfl, rfl, fun _ _ => by simp [Wf]⟩, ⟨Try.underlying39, by kernel_rfl, by kernel_rfl⟩⟩
def te : TE := [(2, ⟨.int .i64 0, 1, 8, .sc (.int .i64)⟩), (3, ⟨.int .i64 0, 1, 8, .sc (.int .i64)⟩), (4, ⟨.bool false, 1, 1, .sc (.bool)⟩), (5, ⟨.int .u8 0, 1, 1, .sc (.int .u8)⟩), (21, ⟨.int .i32 0, 1, 4, .sc (.int .i32)⟩), (22, ⟨.int .u64 0, 1, 8, .sc (.int .u64)⟩), (30, ⟨.int .u64 0, 1, 8, .sc (.int .u64)⟩), (37, ⟨.int .u32 0, 1, 4, .sc (.int .u32)⟩), (38, ⟨.ints .i64 12 (fun _ => 0), 12, 96, .ar 12 3 1 false⟩), (39, ⟨.ints .i64 70 (fun _ => 0), 70, 560, .ar 70 3 1 false⟩)]
theorem te_ok : TEok Try.prog te := .cons te_2 (.cons te_3 (.cons te_4 (.cons te_5 (.cons te_21 (.cons te_22 (.cons te_30 (.cons te_37 (.cons te_38 (.cons te_39 (TEok.nil _))))))))))
end Go.Proofs.Ytcoicmgdjkabaaa
