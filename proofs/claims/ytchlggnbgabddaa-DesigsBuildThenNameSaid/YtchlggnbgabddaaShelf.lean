/- The shelf's contracts that this seat's walks meet, laid at its dump. -/
import Derived.Shelf.Strings.Search1
import Derived.Shelf.Bytes.SlIndexSmall
import Derived.Shelf.Bytes.SlIndexAt
import Derived.Shelf.Bytes.SlSearch0
import Derived.Shelf.Bytes.SlSearch1
import Derived.Shelf.Bytes.SlSearch2
import Derived.Shelf.Bytes.SlIndexWhole
import Derived.Shelf.LaysM
import Derived.Ground.SlbtProg
import Derived.Shelf.Bytes.SlCut
import Derived.Shelf.Bytes.Small
import Derived.Shelf.Bytes.IndexByte
import Derived.Test.YtchlggnbgabddaaProg
namespace Go.Proofs
open Go.Shelf
def Try.lays185_ren : Go.Shelf.Ren := ⟨fun | 185 => 26 | 187 => 27 | 115 => 28 | 253 => 29 | 224 => 30 | 254 => 31 | 255 => 32 | 291 => 33 | n => n, fun | 37 => 22 | 3 => 3 | 4 => 4 | 0 => 0 | 5 => 5 | 46 => 50 | 9 => 9 | 146 => 52 | 51 => 51 | n => n, fun | 1 => 0 | n => n⟩
theorem Try.lays185 : Go.Proofs.Lays.n185 Try.prog Try.lays185_ren := {
  mixed := by kernel_rfl
  f115 := Try.func28.trans (congrArg some (by kernel_rfl))
  f185 := Try.func26.trans (congrArg some (by kernel_rfl))
  f187 := Try.func27.trans (congrArg some (by kernel_rfl))
  f224 := Try.func30.trans (congrArg some (by kernel_rfl))
  f253 := Try.func29.trans (congrArg some (by kernel_rfl))
  f254 := Try.func31.trans (congrArg some (by kernel_rfl))
  f255 := Try.func32.trans (congrArg some (by kernel_rfl))
  f291 := Try.func33.trans (congrArg some (by kernel_rfl))
  t0 := Try.underlying0
  a0 := Try.isAgg0
  z0 := Try.sizeOf0
  v0 := Try.zeroValue0
  t3 := Try.underlying3
  a3 := Try.isAgg3
  z3 := Try.sizeOf3
  v3 := Try.zeroValue3
  t4 := Try.underlying4
  a4 := Try.isAgg4
  z4 := Try.sizeOf4
  v4 := Try.zeroValue4
  t5 := Try.underlying5
  a5 := Try.isAgg5
  z5 := Try.sizeOf5
  v5 := Try.zeroValue5
  t9 := Try.underlying9
  a9 := Try.isAgg9
  z9 := Try.sizeOf9
  v9 := Try.zeroValue9
  t37 := Try.underlying22
  a37 := Try.isAgg22
  z37 := Try.sizeOf22
  v37 := Try.zeroValue22
  t46 := Try.underlying50
  a46 := Try.isAgg50
  z46 := Try.sizeOf50
  v46 := Try.zeroValue50
  t51 := Try.underlying51
  a51 := Try.isAgg51
  z51 := Try.sizeOf51
  v51 := Try.zeroValue51
  t146 := Try.underlying52
  a146 := Try.isAgg52
  z146 := Try.sizeOf52
  v146 := Try.zeroValue52
  g1 := by kernel_rfl }
theorem Try.bytes_Index_one_at (a : Addr) (n c b2 o2 d : Nat) (xs : List Int) (cv : Int) (w : World) (hx : xs.length = n) (hc : ∀ i, i < n → w.cell? (a.add i) = some (.int .u8 (xs.getD i 0))) (hc2 : w.cell? ⟨b2, o2, none⟩ = some (.int .u8 cv)) :
    Calls Try.prog 26 #[.slice (some a) n c, .slice (some ⟨b2, o2, none⟩) 1 d] w fun e w' => e = .returned (.int .i64 (Lib.indexByte (Lib.bytesOf xs) cv.toNat.toUInt8)) ∧ w' = w := Any.bytes_Index_one_at Try.lays185 a n c b2 o2 d xs cv w hx hc hc2
def Try.laysSlT4_ren : Go.Shelf.Ren := ⟨fun | 4 => 23 | 5 => 26 | 6 => 27 | 7 => 28 | 8 => 29 | 9 => 30 | 10 => 31 | 11 => 32 | 12 => 33 | n => n, fun | 22 => 22 | 4 => 4 | 3 => 3 | 0 => 0 | 5 => 5 | 29 => 50 | 9 => 9 | 31 => 52 | 30 => 51 | n => n, fun | 0 => 0 | n => n⟩
theorem Try.laysSlT4 : Go.Proofs.SlLaysT.n4 Try.prog Try.laysSlT4_ren := {
  mixed := by kernel_rfl
  f4 := Try.func23.trans (congrArg some (by kernel_rfl))
  f5 := Try.func26.trans (congrArg some (by kernel_rfl))
  f6 := Try.func27.trans (congrArg some (by kernel_rfl))
  f7 := Try.func28.trans (congrArg some (by kernel_rfl))
  f8 := Try.func29.trans (congrArg some (by kernel_rfl))
  f9 := Try.func30.trans (congrArg some (by kernel_rfl))
  f10 := Try.func31.trans (congrArg some (by kernel_rfl))
  f11 := Try.func32.trans (congrArg some (by kernel_rfl))
  f12 := Try.func33.trans (congrArg some (by kernel_rfl))
  t0 := Try.underlying0
  a0 := Try.isAgg0
  z0 := Try.sizeOf0
  v0 := Try.zeroValue0
  t3 := Try.underlying3
  a3 := Try.isAgg3
  z3 := Try.sizeOf3
  v3 := Try.zeroValue3
  t4 := Try.underlying4
  a4 := Try.isAgg4
  z4 := Try.sizeOf4
  v4 := Try.zeroValue4
  t5 := Try.underlying5
  a5 := Try.isAgg5
  z5 := Try.sizeOf5
  v5 := Try.zeroValue5
  t9 := Try.underlying9
  a9 := Try.isAgg9
  z9 := Try.sizeOf9
  v9 := Try.zeroValue9
  t22 := Try.underlying22
  a22 := Try.isAgg22
  z22 := Try.sizeOf22
  v22 := Try.zeroValue22
  t29 := Try.underlying50
  a29 := Try.isAgg50
  z29 := Try.sizeOf50
  v29 := Try.zeroValue50
  t30 := Try.underlying51
  a30 := Try.isAgg51
  z30 := Try.sizeOf51
  v30 := Try.zeroValue51
  t31 := Try.underlying52
  a31 := Try.isAgg52
  z31 := Try.sizeOf52
  v31 := Try.zeroValue52
  g0 := by kernel_rfl }
theorem Try.bytes_Cut_of (p1 p2 : Option Addr) (n c1 k c2 : Nat) (i : Int) (w : World) (hcap : n ≤ c1) (hlo : -1 ≤ i) (hroom : 0 ≤ i → i + k ≤ n) (hn : n ≤ 4611686018427387904) (hidx : Calls Try.prog 26 #[.slice p1 n c1, .slice p2 k c2] w fun e w' => e = .returned (.int .i64 i) ∧ ∃ q, w' = w.drewN q) :
    Calls Try.prog 23 #[.slice p1 n c1, .slice p2 k c2] w fun e w' => e = .returned (Lib.cutV p1 n c1 k i) ∧ ∃ q, w' = w.drewN q := Any.bytes_Cut_of Try.laysSlT4 p1 p2 n c1 k c2 i w hcap hlo hroom hn hidx
end Go.Proofs
