/- How the arguments of the law LayoutChecks are read. -/
import Derived.Test.YtjapfalijpfmpaaGreatDoorProg
import Derived.Test.YtjapfalijpfmpaaGreatDoorU7
import Derived.Test.YtjapfalijpfmpaaGreatDoorAbsO
import Derived.KernelRfl
namespace Go.Proofs.YtjapfalijpfmpaaGreatDoor.Abs
open Go
set_option maxRecDepth 100000
def Conf.wf (x : Conf) : Prop := (Lit.int .i64 x.GroupRows).wf = true ∧ ((Lit.int .i64 x.PageRows).wf = true ∧ ((x.Encs.length ≤ maxLen ∧ ∀ y ∈ x.Encs, (Lit.int .i64 y).wf = true)))
def Conf.bulk (x : Conf) : Nat := (1 + (1 + ((sumB (fun y => 1) x.Encs + 1)))) + 1
theorem Conf.open32 : OpenT Tryz.prog 32 Conf.enc Conf.wf Conf.bulk :=
  (openT_struct (T := 3) Tryz.underlying32 (by kernel_rfl) (openF_cons (openT_int Tryz.underlying3) rfl (openF_cons (openT_int Tryz.underlying3) rfl (openF_one (openT_slice (sz := 1) Tryz.underlying30 (by kernel_rfl) (by decide) (openT_int Tryz.underlying3)) rfl (by kernel_rfl))))).map (fun (x : _root_.Int × _root_.Int × (List _root_.Int)) => (⟨x.1, x.2.1, x.2.2⟩ : Conf)) (fun x => rfl) (fun x h => h) (fun x => Nat.le_refl _)
def Col.wf (x : Col) : Prop := x.Name.length ≤ maxLen ∧ ((Lit.int .i64 x.Type_).wf = true ∧ (True))
def Col.bulk (x : Col) : Nat := ((x.Name.length + 1) + (1 + (1))) + 1
theorem Col.open41 : OpenT Tryz.prog 41 Col.enc Col.wf Col.bulk :=
  (openT_struct (T := 3) Tryz.underlying41 (by kernel_rfl) (openF_cons (openT_str Tryz.underlying9) rfl (openF_cons (openT_int Tryz.underlying3) rfl (openF_one (openT_bool Tryz.underlying4) rfl (by kernel_rfl))))).map (fun (x : (List UInt8) × _root_.Int × Bool) => (⟨x.1, x.2.1, x.2.2⟩ : Col)) (fun x => rfl) (fun x h => h) (fun x => Nat.le_refl _)
end Go.Proofs.YtjapfalijpfmpaaGreatDoor.Abs
