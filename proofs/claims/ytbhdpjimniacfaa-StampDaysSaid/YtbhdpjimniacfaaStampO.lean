/- The order of days and times; conditions: those of each lemma. -/
import Derived.Test.YtbhdpjimniacfaaStampW
namespace Go.Proofs.Ytbhdpjimniacfaa.StampO
open Go.RowKit Go.Proofs.Ytbhdpjimniacfaa.PC Go.Proofs.YtbhdpjimniacfaaW.PrintWords Go.Proofs.YtbhdpjimniacfaaW.PrintLast Go.Proofs.YtbhdpjimniacfaaW.PrintMore
open Go.Proofs.Ytbhdpjimniacfaa.CivilM Go.Proofs.Ytbhdpjimniacfaa.CivilL Go.Proofs.Ytbhdpjimniacfaa.CivilA Go.Proofs.Ytbhdpjimniacfaa.StampL Go.Proofs.Ytbhdpjimniacfaa.StampT Go.Proofs.Ytbhdpjimniacfaa.StampD Go.Proofs.Ytbhdpjimniacfaa.StampW
set_option linter.unusedVariables false
attribute [local irreducible] yst cum dimI lpI lpB

theorem num_top {y m d : Int} (a : okD y m d = true) : num y m d < yst (y + 1) := by
  have r := ok_small a
  have k := (okD_iff y m d).1 a
  have e := dim_cum y m (by omega) (by omega)
  have e1 := cum_mono y (m + 1) 13 (by omega) (by omega) (by omega)
  rw [cum_13] at e1
  have s := yst_succ y (by omega)
  unfold num
  omega
theorem num_low {y m d : Int} (a : okD y m d = true) : yst y ≤ num y m d := by
  have r := ok_small a
  have c := cum_bd y m
  unfold num
  omega
theorem lt_year {y m d y' m' d' : Int} (a : okD y m d = true) (a' : okD y' m' d' = true) (h : y < y') : num y m d < num y' m' d' := by
  have := num_top a
  have := num_low a'
  have := yst_mono (y + 1) y' (by omega)
  omega
theorem lt_month {y m d m' d' : Int} (a : okD y m d = true) (a' : okD y m' d' = true) (h : m < m') : num y m d < num y m' d' := by
  have r := ok_small a
  have r' := ok_small a'
  have k := (okD_iff y m d).1 a
  have e := dim_cum y m (by omega) (by omega)
  have e1 := cum_mono y (m + 1) m' (by omega) (by omega) (by omega)
  unfold num
  omega
theorem lt_day {y m d d' : Int} (h : d < d') : num y m d < num y m d' := by unfold num; omega
theorem secs_day {y m d h mi s y' m' d' h' mi' s' : Int} (b : okT h mi s = true) (b' : okT h' mi' s' = true) (k : num y m d < num y' m' d') : secs y m d h mi s < secs y' m' d' h' mi' s' := by
  have c := (okT_iff h mi s).1 b
  have c' := (okT_iff h' mi' s').1 b'
  unfold secs
  omega
theorem secs_hour {y m d h mi s h' mi' s' : Int} (b : okT h mi s = true) (b' : okT h' mi' s' = true) (k : h < h') : secs y m d h mi s < secs y m d h' mi' s' := by
  have c := (okT_iff h mi s).1 b
  have c' := (okT_iff h' mi' s').1 b'
  unfold secs
  omega
theorem secs_min {y m d h mi s mi' s' : Int} (b : okT h mi s = true) (b' : okT h mi' s' = true) (k : mi < mi') : secs y m d h mi s < secs y m d h mi' s' := by
  have c := (okT_iff h mi s).1 b
  have c' := (okT_iff h mi' s').1 b'
  unfold secs
  omega
theorem secs_sec {y m d h mi s s' : Int} (k : s < s') : secs y m d h mi s < secs y m d h mi s' := by
  unfold secs
  omega
end Go.Proofs.Ytbhdpjimniacfaa.StampO
