/- The document's Right, whatever the table. No conditions. -/
import Derived.Test.YtccfjjaljckinaaRRightBM
import Derived.Test.YtccfjjaljckinaaRRightDM
namespace Go.Proofs.Ytccfjjaljckinaa.Tag
open Go.RowKit Go.Lib Go.Proofs.Ytccfjjaljckinaa.Mem Go.Proofs.Ytccfjjaljckinaa.IMap Go.Proofs.YtccfjjaljckinaaW.PrintWords Go.Proofs.Ytccfjjaljckinaa.PTagActs
theorem rightAt {w : World} {cap serial : Int} {A1 A2 : Option Addr} {c1 c2 : Nat} {lasts : List Int} {l : List Listed} (h1 : Kd.C (Kd.int .i64) w A1 lasts.length lasts) (g1 : lasts.length ≤ c1) (h2 : Kd.C k34 w A2 l.length (sL l)) (g2 : l.length ≤ c2) (hn1 : lasts.length ≤ 1000) (hn2 : l.length ≤ 1000) :
    Calls Try.prog 17 #[.agg #[.int .i64 cap, .int .i64 serial, .slice A1 lasts.length c1, .slice A2 l.length c2]] w (RightPost cap serial lasts l w) := by
  by_cases b1 : cap < 0
  · exact right_a h1 g1 h2 g2 hn1 hn2 b1
  by_cases b2 : 65536 < cap
  · exact right_b h1 g1 h2 g2 hn1 hn2 b1 b2
  by_cases b3 : serial < 0
  · exact right_c h1 g1 h2 g2 hn1 hn2 b1 b2 b3
  by_cases b5 : cap < l.length
  · exact right_e h1 g1 h2 g2 hn1 hn2 b1 b2 b3 b5
  by_cases b4 : lasts.getLast? = some 0
  · exact right_d h1 g1 h2 g2 hn1 hn2 b1 b2 b3 b5 b4
  have hh : ¬ headBad cap serial lasts l.length := by
    rintro (h | h | h | h | h)
    · exact b1 h
    · exact b2 h
    · exact b3 h
    · exact b4 h
    · exact b5 h
  rcases Nat.eq_zero_or_pos lasts.length with hq | hq
  · exact right_inB h1 g1 h2 g2 hn1 hn2 b1 b2 b3 b5 b4 hq hh
  · exact right_inD h1 g1 h2 g2 hn1 hn2 b1 b2 b3 b5 b4 hq hh
end Go.Proofs.Ytccfjjaljckinaa.Tag
