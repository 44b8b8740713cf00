/- The reference of sdomsg: laid (all kinds). -/
import Derived.Test.YtcncbmlacphclaaRSdEa
import Derived.Test.YtcncbmlacphclaaRSdEb
import Derived.Test.YtcncbmlacphclaaRSdEc
import Derived.Test.YtcncbmlacphclaaRSdEd
namespace Go.Proofs.Ytcncbmlacphclaa
set_option linter.unusedVariables false
set_option linter.unusedSimpArgs false
set_option linter.unnecessarySimpa false
open Go.RowKit

theorem rsd_laid (kind : Int) (ix sub sq bl em size code sum n c : Nat) (tg la cr sz : Bool) (A : Option Addr) (data : List UInt8) (w : World) (k1 : 1 ≤ kind) (k2 : kind ≤ 21) (hu1 : size ≤ 4294967295) (hu2 : code ≤ 4294967295) (hu3 : sum ≤ 65535)
    (A2 : ix ≤ 65535) (B2 : sub ≤ 255) (C2 : sq ≤ 127) (D2 : bl ≤ 127) (E2 : em ≤ 7) (hn : n = data.length) (hn7 : n ≤ 7) (hn4 : kind = 2 ∨ kind = 14 → n ≤ 4) (hs : Sl w A (data.map bv)) :
    Calls Try.prog 68 #[.agg #[.int .i64 kind, .int .i64 (ix : Nat), .int .i64 (sub : Nat), .bool tg, .bool la, .bool cr, .bool sz, .int .u32 (size : Nat), .int .u32 (code : Nat), .slice A n c, .int .i64 (sq : Nat), .int .i64 (bl : Nat), .int .i64 (em : Nat), .int .u16 (sum : Nat)]] w (LaidR w (rlaidL kind n ix sub size code sq bl em sum tg la cr sz data)) := by
  rcases (show (kind = 1 ∨ kind = 2 ∨ kind = 3 ∨ kind = 4 ∨ kind = 5) ∨ (kind = 6 ∨ kind = 7 ∨ kind = 8 ∨ kind = 9 ∨ kind = 10 ∨ kind = 11 ∨ kind = 12 ∨ kind = 13) ∨ (kind = 14 ∨ kind = 16 ∨ kind = 17 ∨ kind = 18) ∨ (kind = 15 ∨ kind = 19 ∨ kind = 20 ∨ kind = 21) by omega) with g | g | g | g
  · exact rsd_laid_a kind ix sub sq bl em size code sum n c tg la cr sz A data w k1 k2 hu1 hu2 hu3 A2 B2 C2 D2 E2 hn hn7 hn4 hs g
  · exact rsd_laid_b kind ix sub sq bl em size code sum n c tg la cr sz A data w k1 k2 hu1 hu2 hu3 A2 B2 C2 D2 E2 hn hn7 hn4 hs g
  · exact rsd_laid_c kind ix sub sq bl em size code sum n c tg la cr sz A data w k1 k2 hu1 hu2 hu3 A2 B2 C2 D2 E2 hn hn7 hn4 hs g
  · exact rsd_laid_d kind ix sub sq bl em size code sum n c tg la cr sz A data w k1 k2 hu1 hu2 hu3 A2 B2 C2 D2 E2 hn hn7 hn4 hs g
end Go.Proofs.Ytcncbmlacphclaa
