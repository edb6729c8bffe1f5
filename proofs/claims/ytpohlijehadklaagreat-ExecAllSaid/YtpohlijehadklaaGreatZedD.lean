import Derived.Test.YtpohlijehadklaaGreatZedC
import Derived.Test.YtpohlijehadklaaGreatExecR
import Derived.Test.YtpohlijehadklaaGreatExecC
set_option linter.unusedSimpArgs false
set_option linter.unusedVariables false
set_option linter.constructorNameAsVariable false
set_option autoImplicit false
namespace Go.Eng
open Go Go.RowKit Go.Proofs
set_option maxHeartbeats 16000000 in
theorem c_J1 {c : Code} {ts : List Rn} {n i o k j : Nat} {R : Rn} {EV RG L0 L1 L2 L3 L4 : List (List PV)} {x : Wd} (hcode : codeAt Tryz.f16 4 [1, 0, 0, 1, 1, 0] = some c) (hl : L1.length ≤ 1000) (hk : k < R.ad.length) (hx : ub x = R.ad[k]) (hj : j ≤ 1000) :
    AW Tryz.prog c (meetQ ⟨187, [(0, .pv (.sl 16 (trsL ts))), (2, .ptr (.loc 2) 0), (4, .ptr (.loc 4) 0), (5, I .i64 n), (8, .own (.loc 1008)), (9, .own (.loc 1009)), (10, .own (.loc 1010)), (11, .own (.loc 1011)), (12, .own (.loc 1012)), (13, I .i64 i), (14, I .i64 o), (15, .ptr (.loc 15) 0), (16, I .i64 k), (18, I .i64 j), (19, .ptr (.loc 19) 0)], [(.loc 2, some (.box 40 [.pv (.v (.slice none 0 0)), .pv (.v (.slice none 0 0)), .pv (.v (.slice none 0 0)), .pv (.v (.slice none 0 0)), .pv (.v (.slice none 0 0)), .pv (.v (.slice none 0 0)), .pv (.v (.slice none 0 0))])), (.loc 4, some (.box 40 [.own (.loc 1001), .pv (.v (.slice none 0 0)), .pv (.v (.slice none 0 0)), .pv (.v (.slice none 0 0)), .pv (.v (.slice none 0 0)), .pv (.v (.slice none 0 0)), .own (.loc 1002)])), (.loc 15, some (.box 72 [.pv (.sl 7 (evsL R.es)), .pv (.sl 1 (u32s R.ad)), .pv (.sl 1 (u32s R.da)), .pv (.sl 1 (u32s R.ct)), .pv (.sl 1 (ints R.pa)), I .i64 R.v0, I .i64 R.v1, I .i64 R.v2, I .i64 R.v3, I .u32 R.d0, I .u32 R.d1, I .u32 R.d2, I .u32 R.d3, I .i64 R.nv, I .i64 R.nl, I .i64 R.more])), (.loc 1001, some (.own 104 7 (EV))), (.loc 1002, some (.own 22 1 (RG))), (.loc 1008, some (.own 80 2 (L0))), (.loc 1009, some (.own 80 2 (L1 ++ (if x.getLsbD j = true then [[C .i64 ((o + j : Nat) : Int), C .i64 ((o + k : Nat) : Int)]] else [])))), (.loc 1010, some (.own 80 2 (L2))), (.loc 1011, some (.own 80 2 (L3))), (.loc 1012, some (.own 80 2 (L4))), (.loc 19, some (.box 80 [I .i64 ((o + j : Nat) : Int), I .i64 ((o + k : Nat) : Int)]))]⟩) ⟨187, [(0, .pv (.sl 16 (trsL ts))), (2, .ptr (.loc 2) 0), (4, .ptr (.loc 4) 0), (5, I .i64 n), (8, .own (.loc 1008)), (9, .own (.loc 1009)), (10, .own (.loc 1010)), (11, .own (.loc 1011)), (12, .own (.loc 1012)), (13, I .i64 i), (14, I .i64 o), (15, .ptr (.loc 15) 0), (16, I .i64 k), (18, I .i64 j), (19, .ptr (.loc 19) 0)], [(.loc 2, some (.box 40 [.pv (.v (.slice none 0 0)), .pv (.v (.slice none 0 0)), .pv (.v (.slice none 0 0)), .pv (.v (.slice none 0 0)), .pv (.v (.slice none 0 0)), .pv (.v (.slice none 0 0)), .pv (.v (.slice none 0 0))])), (.loc 4, some (.box 40 [.own (.loc 1001), .pv (.v (.slice none 0 0)), .pv (.v (.slice none 0 0)), .pv (.v (.slice none 0 0)), .pv (.v (.slice none 0 0)), .pv (.v (.slice none 0 0)), .own (.loc 1002)])), (.loc 15, some (.box 72 [.pv (.sl 7 (evsL R.es)), .pv (.sl 1 (u32s R.ad)), .pv (.sl 1 (u32s R.da)), .pv (.sl 1 (u32s R.ct)), .pv (.sl 1 (ints R.pa)), I .i64 R.v0, I .i64 R.v1, I .i64 R.v2, I .i64 R.v3, I .u32 R.d0, I .u32 R.d1, I .u32 R.d2, I .u32 R.d3, I .i64 R.nv, I .i64 R.nl, I .i64 R.more])), (.loc 1001, some (.own 104 7 (EV))), (.loc 1002, some (.own 22 1 (RG))), (.loc 1008, some (.own 80 2 (L0))), (.loc 1009, some (.own 80 2 (L1))), (.loc 1010, some (.own 80 2 (L2))), (.loc 1011, some (.own 80 2 (L3))), (.loc 1012, some (.own 80 2 (L4))), (.loc 19, some (.box 80 [I .i64 ((o + j : Nat) : Int), I .i64 ((o + k : Nat) : Int)]))]⟩ := by
  cases hcode
  have hb := c_bit10 (w := x) (k := j) hj
  cases h : x.getLsbD j
  · rw [h] at hb
    repeat' (first
      | refine ar_end rfl ?_
      | refine ar_endD rfl (by kernel_rfl) ?_
      | refine ar_fin rfl ?_
      | refine ar_finD rfl (by kernel_rfl) ?_
      | refine ar_callV Tryz.call42 hb rfl rfl rfl rfl rfl (by simp; done) (by rfl) (by simp; done) ?_
      | refine ar_callV_if Tryz.call42 hb rfl rfl rfl rfl rfl rfl (by simp; done) rfl (by rfl) (by simp; done) ?_
      | exact meet_norm [(.loc 110, .loc 1009)] [0, 2, 4, 5, 8, 9, 10, 11, 12, 13, 14, 15, 16, 18, 19] [.loc 2, .loc 4, .loc 15, .loc 1001, .loc 1002, .loc 1008, .loc 1009, .loc 1010, .loc 1011, .loc 1012, .loc 19] (by simp [h])
      | refine ar_go3 _ rfl (by simp [u32s_len, u32s_getE, hk, ← hx]; exact ⟨rfl, rfl, rfl⟩) rfl ?_
      | refine aw_sregK 31 [0, 2, 4, 5, 8, 9, 10, 11, 12, 13, 14, 15, 16, 18, 19] ?_
      | refine aw_regK 31 [0, 2, 4, 5, 8, 9, 10, 11, 12, 13, 14, 15, 16, 18, 19] ?_
      | refine aw_sregK 32 [0, 2, 4, 5, 8, 9, 10, 11, 12, 13, 14, 15, 16, 18, 19] ?_
      | refine aw_regK 32 [0, 2, 4, 5, 8, 9, 10, 11, 12, 13, 14, 15, 16, 18, 19] ?_
      | refine aw_sreg ?_
      | refine aw_sregD mixed ?_
      | refine aw_ifT (b := true) rfl rfl ?_
      | refine aw_ifF (b := false) rfl rfl ?_
      | refine aw_ifT rfl (by assumption) ?_
      | refine aw_ifF rfl (by assumption) ?_
      | refine aw_ifT rfl (decide_eq_true (by assumption)) ?_
      | refine aw_ifF rfl (decide_eq_false (by assumption)) ?_
      | refine aw_seq ?_
      | refine aw_block ?_
      | refine aw_skip ?_
      | refine aw_region ?_
      | refine aw_region_draw mixed ?_
      | refine aw_exit ?_
      | refine rq_exit ?_
      | refine blockQ_hit ?_
      | refine blockQ_miss (by decide) ?_)
  · rw [h] at hb
    repeat' (first
      | refine ar_end rfl ?_
      | refine ar_endD rfl (by kernel_rfl) ?_
      | refine ar_fin rfl ?_
      | refine ar_finD rfl (by kernel_rfl) ?_
      | refine ar_callV Tryz.call42 hb rfl rfl rfl rfl rfl (by simp; done) (by rfl) (by simp; done) ?_
      | refine ar_callV_if Tryz.call42 hb rfl rfl rfl rfl rfl rfl (by simp; done) rfl (by rfl) (by simp; done) ?_
      | exact meet_norm [(.loc 110, .loc 1009)] [0, 2, 4, 5, 8, 9, 10, 11, 12, 13, 14, 15, 16, 18, 19] [.loc 2, .loc 4, .loc 15, .loc 1001, .loc 1002, .loc 1008, .loc 1009, .loc 1010, .loc 1011, .loc 1012, .loc 19] (by simp [h])
      | refine ar_appO rfl rfl rfl rfl rfl (by simp; exact rfl) rfl (by simp; exact rfl) (by simp; exact rfl) (by simp; exact ⟨rfl, rfl⟩) rfl (by simp; exact rfl) (by simp; done) (by decide) (by simp [hl, maxLen]; try omega) ?_
      | refine ar_go3 _ rfl (by simp [u32s_len, u32s_getE, hk, ← hx]; exact ⟨rfl, rfl, rfl⟩) rfl ?_
      | refine aw_sregK 31 [0, 2, 4, 5, 8, 9, 10, 11, 12, 13, 14, 15, 16, 18, 19] ?_
      | refine aw_regK 31 [0, 2, 4, 5, 8, 9, 10, 11, 12, 13, 14, 15, 16, 18, 19] ?_
      | refine aw_sregK 32 [0, 2, 4, 5, 8, 9, 10, 11, 12, 13, 14, 15, 16, 18, 19] ?_
      | refine aw_regK 32 [0, 2, 4, 5, 8, 9, 10, 11, 12, 13, 14, 15, 16, 18, 19] ?_
      | refine aw_sreg ?_
      | refine aw_sregD mixed ?_
      | refine aw_ifT (b := true) rfl rfl ?_
      | refine aw_ifF (b := false) rfl rfl ?_
      | refine aw_ifT rfl (by assumption) ?_
      | refine aw_ifF rfl (by assumption) ?_
      | refine aw_ifT rfl (decide_eq_true (by assumption)) ?_
      | refine aw_ifF rfl (decide_eq_false (by assumption)) ?_
      | refine aw_seq ?_
      | refine aw_block ?_
      | refine aw_skip ?_
      | refine aw_region ?_
      | refine aw_region_draw mixed ?_
      | refine aw_exit ?_
      | refine rq_exit ?_
      | refine blockQ_hit ?_
      | refine blockQ_miss (by decide) ?_)
set_option maxHeartbeats 16000000 in
theorem c_J2 {c : Code} {ts : List Rn} {n i o k j : Nat} {R : Rn} {EV RG L0 L1 L2 L3 L4 : List (List PV)} {x : Wd} (hcode : codeAt Tryz.f16 4 [1, 0, 0, 1, 1, 1, 0] = some c) (hl : L2.length ≤ 1000) (hk : k < R.da.length) (hx : ub x = R.da[k]) (hj : j ≤ 1000) :
    AW Tryz.prog c (meetQ ⟨187, [(0, .pv (.sl 16 (trsL ts))), (2, .ptr (.loc 2) 0), (4, .ptr (.loc 4) 0), (5, I .i64 n), (8, .own (.loc 1008)), (9, .own (.loc 1009)), (10, .own (.loc 1010)), (11, .own (.loc 1011)), (12, .own (.loc 1012)), (13, I .i64 i), (14, I .i64 o), (15, .ptr (.loc 15) 0), (16, I .i64 k), (18, I .i64 j), (19, .ptr (.loc 19) 0)], [(.loc 2, some (.box 40 [.pv (.v (.slice none 0 0)), .pv (.v (.slice none 0 0)), .pv (.v (.slice none 0 0)), .pv (.v (.slice none 0 0)), .pv (.v (.slice none 0 0)), .pv (.v (.slice none 0 0)), .pv (.v (.slice none 0 0))])), (.loc 4, some (.box 40 [.own (.loc 1001), .pv (.v (.slice none 0 0)), .pv (.v (.slice none 0 0)), .pv (.v (.slice none 0 0)), .pv (.v (.slice none 0 0)), .pv (.v (.slice none 0 0)), .own (.loc 1002)])), (.loc 15, some (.box 72 [.pv (.sl 7 (evsL R.es)), .pv (.sl 1 (u32s R.ad)), .pv (.sl 1 (u32s R.da)), .pv (.sl 1 (u32s R.ct)), .pv (.sl 1 (ints R.pa)), I .i64 R.v0, I .i64 R.v1, I .i64 R.v2, I .i64 R.v3, I .u32 R.d0, I .u32 R.d1, I .u32 R.d2, I .u32 R.d3, I .i64 R.nv, I .i64 R.nl, I .i64 R.more])), (.loc 1001, some (.own 104 7 (EV))), (.loc 1002, some (.own 22 1 (RG))), (.loc 1008, some (.own 80 2 (L0))), (.loc 1009, some (.own 80 2 (L1))), (.loc 1010, some (.own 80 2 (L2 ++ (if x.getLsbD j = true then [[C .i64 ((o + j : Nat) : Int), C .i64 ((o + k : Nat) : Int)]] else [])))), (.loc 1011, some (.own 80 2 (L3))), (.loc 1012, some (.own 80 2 (L4))), (.loc 19, some (.box 80 [I .i64 ((o + j : Nat) : Int), I .i64 ((o + k : Nat) : Int)]))]⟩) ⟨187, [(0, .pv (.sl 16 (trsL ts))), (2, .ptr (.loc 2) 0), (4, .ptr (.loc 4) 0), (5, I .i64 n), (8, .own (.loc 1008)), (9, .own (.loc 1009)), (10, .own (.loc 1010)), (11, .own (.loc 1011)), (12, .own (.loc 1012)), (13, I .i64 i), (14, I .i64 o), (15, .ptr (.loc 15) 0), (16, I .i64 k), (18, I .i64 j), (19, .ptr (.loc 19) 0)], [(.loc 2, some (.box 40 [.pv (.v (.slice none 0 0)), .pv (.v (.slice none 0 0)), .pv (.v (.slice none 0 0)), .pv (.v (.slice none 0 0)), .pv (.v (.slice none 0 0)), .pv (.v (.slice none 0 0)), .pv (.v (.slice none 0 0))])), (.loc 4, some (.box 40 [.own (.loc 1001), .pv (.v (.slice none 0 0)), .pv (.v (.slice none 0 0)), .pv (.v (.slice none 0 0)), .pv (.v (.slice none 0 0)), .pv (.v (.slice none 0 0)), .own (.loc 1002)])), (.loc 15, some (.box 72 [.pv (.sl 7 (evsL R.es)), .pv (.sl 1 (u32s R.ad)), .pv (.sl 1 (u32s R.da)), .pv (.sl 1 (u32s R.ct)), .pv (.sl 1 (ints R.pa)), I .i64 R.v0, I .i64 R.v1, I .i64 R.v2, I .i64 R.v3, I .u32 R.d0, I .u32 R.d1, I .u32 R.d2, I .u32 R.d3, I .i64 R.nv, I .i64 R.nl, I .i64 R.more])), (.loc 1001, some (.own 104 7 (EV))), (.loc 1002, some (.own 22 1 (RG))), (.loc 1008, some (.own 80 2 (L0))), (.loc 1009, some (.own 80 2 (L1))), (.loc 1010, some (.own 80 2 (L2))), (.loc 1011, some (.own 80 2 (L3))), (.loc 1012, some (.own 80 2 (L4))), (.loc 19, some (.box 80 [I .i64 ((o + j : Nat) : Int), I .i64 ((o + k : Nat) : Int)]))]⟩ := by
  cases hcode
  have hb := c_bit10 (w := x) (k := j) hj
  cases h : x.getLsbD j
  · rw [h] at hb
    repeat' (first
      | refine ar_end rfl ?_
      | refine ar_endD rfl (by kernel_rfl) ?_
      | refine ar_fin rfl ?_
      | refine ar_finD rfl (by kernel_rfl) ?_
      | refine ar_callV Tryz.call42 hb rfl rfl rfl rfl rfl (by simp; done) (by rfl) (by simp; done) ?_
      | refine ar_callV_if Tryz.call42 hb rfl rfl rfl rfl rfl rfl (by simp; done) rfl (by rfl) (by simp; done) ?_
      | exact meet_norm [(.loc 121, .loc 1010)] [0, 2, 4, 5, 8, 9, 10, 11, 12, 13, 14, 15, 16, 18, 19] [.loc 2, .loc 4, .loc 15, .loc 1001, .loc 1002, .loc 1008, .loc 1009, .loc 1010, .loc 1011, .loc 1012, .loc 19] (by simp [h])
      | refine ar_go3 _ rfl (by simp [u32s_len, u32s_getE, hk, ← hx]; exact ⟨rfl, rfl, rfl⟩) rfl ?_
      | refine aw_sregK 33 [0, 2, 4, 5, 8, 9, 10, 11, 12, 13, 14, 15, 16, 18, 19] ?_
      | refine aw_regK 33 [0, 2, 4, 5, 8, 9, 10, 11, 12, 13, 14, 15, 16, 18, 19] ?_
      | refine aw_sregK 34 [0, 2, 4, 5, 8, 9, 10, 11, 12, 13, 14, 15, 16, 18, 19] ?_
      | refine aw_regK 34 [0, 2, 4, 5, 8, 9, 10, 11, 12, 13, 14, 15, 16, 18, 19] ?_
      | refine aw_sreg ?_
      | refine aw_sregD mixed ?_
      | refine aw_ifT (b := true) rfl rfl ?_
      | refine aw_ifF (b := false) rfl rfl ?_
      | refine aw_ifT rfl (by assumption) ?_
      | refine aw_ifF rfl (by assumption) ?_
      | refine aw_ifT rfl (decide_eq_true (by assumption)) ?_
      | refine aw_ifF rfl (decide_eq_false (by assumption)) ?_
      | refine aw_seq ?_
      | refine aw_block ?_
      | refine aw_skip ?_
      | refine aw_region ?_
      | refine aw_region_draw mixed ?_
      | refine aw_exit ?_
      | refine rq_exit ?_
      | refine blockQ_hit ?_
      | refine blockQ_miss (by decide) ?_)
  · rw [h] at hb
    repeat' (first
      | refine ar_end rfl ?_
      | refine ar_endD rfl (by kernel_rfl) ?_
      | refine ar_fin rfl ?_
      | refine ar_finD rfl (by kernel_rfl) ?_
      | refine ar_callV Tryz.call42 hb rfl rfl rfl rfl rfl (by simp; done) (by rfl) (by simp; done) ?_
      | refine ar_callV_if Tryz.call42 hb rfl rfl rfl rfl rfl rfl (by simp; done) rfl (by rfl) (by simp; done) ?_
      | exact meet_norm [(.loc 121, .loc 1010)] [0, 2, 4, 5, 8, 9, 10, 11, 12, 13, 14, 15, 16, 18, 19] [.loc 2, .loc 4, .loc 15, .loc 1001, .loc 1002, .loc 1008, .loc 1009, .loc 1010, .loc 1011, .loc 1012, .loc 19] (by simp [h])
      | refine ar_appO rfl rfl rfl rfl rfl (by simp; exact rfl) rfl (by simp; exact rfl) (by simp; exact rfl) (by simp; exact ⟨rfl, rfl⟩) rfl (by simp; exact rfl) (by simp; done) (by decide) (by simp [hl, maxLen]; try omega) ?_
      | refine ar_go3 _ rfl (by simp [u32s_len, u32s_getE, hk, ← hx]; exact ⟨rfl, rfl, rfl⟩) rfl ?_
      | refine aw_sregK 33 [0, 2, 4, 5, 8, 9, 10, 11, 12, 13, 14, 15, 16, 18, 19] ?_
      | refine aw_regK 33 [0, 2, 4, 5, 8, 9, 10, 11, 12, 13, 14, 15, 16, 18, 19] ?_
      | refine aw_sregK 34 [0, 2, 4, 5, 8, 9, 10, 11, 12, 13, 14, 15, 16, 18, 19] ?_
      | refine aw_regK 34 [0, 2, 4, 5, 8, 9, 10, 11, 12, 13, 14, 15, 16, 18, 19] ?_
      | refine aw_sreg ?_
      | refine aw_sregD mixed ?_
      | refine aw_ifT (b := true) rfl rfl ?_
      | refine aw_ifF (b := false) rfl rfl ?_
      | refine aw_ifT rfl (by assumption) ?_
      | refine aw_ifF rfl (by assumption) ?_
      | refine aw_ifT rfl (decide_eq_true (by assumption)) ?_
      | refine aw_ifF rfl (decide_eq_false (by assumption)) ?_
      | refine aw_seq ?_
      | refine aw_block ?_
      | refine aw_skip ?_
      | refine aw_region ?_
      | refine aw_region_draw mixed ?_
      | refine aw_exit ?_
      | refine rq_exit ?_
      | refine blockQ_hit ?_
      | refine blockQ_miss (by decide) ?_)
set_option maxHeartbeats 16000000 in
theorem c_J3 {c : Code} {ts : List Rn} {n i o k j : Nat} {R : Rn} {EV RG L0 L1 L2 L3 L4 : List (List PV)} {x : Wd} (hcode : codeAt Tryz.f16 4 [1, 0, 0, 1, 1, 1, 1, 0] = some c) (hl : L3.length ≤ 1000) (hk : k < R.ct.length) (hx : ub x = R.ct[k]) (hj : j ≤ 1000) :
    AW Tryz.prog c (meetQ ⟨187, [(0, .pv (.sl 16 (trsL ts))), (2, .ptr (.loc 2) 0), (4, .ptr (.loc 4) 0), (5, I .i64 n), (8, .own (.loc 1008)), (9, .own (.loc 1009)), (10, .own (.loc 1010)), (11, .own (.loc 1011)), (12, .own (.loc 1012)), (13, I .i64 i), (14, I .i64 o), (15, .ptr (.loc 15) 0), (16, I .i64 k), (18, I .i64 j), (19, .ptr (.loc 19) 0)], [(.loc 2, some (.box 40 [.pv (.v (.slice none 0 0)), .pv (.v (.slice none 0 0)), .pv (.v (.slice none 0 0)), .pv (.v (.slice none 0 0)), .pv (.v (.slice none 0 0)), .pv (.v (.slice none 0 0)), .pv (.v (.slice none 0 0))])), (.loc 4, some (.box 40 [.own (.loc 1001), .pv (.v (.slice none 0 0)), .pv (.v (.slice none 0 0)), .pv (.v (.slice none 0 0)), .pv (.v (.slice none 0 0)), .pv (.v (.slice none 0 0)), .own (.loc 1002)])), (.loc 15, some (.box 72 [.pv (.sl 7 (evsL R.es)), .pv (.sl 1 (u32s R.ad)), .pv (.sl 1 (u32s R.da)), .pv (.sl 1 (u32s R.ct)), .pv (.sl 1 (ints R.pa)), I .i64 R.v0, I .i64 R.v1, I .i64 R.v2, I .i64 R.v3, I .u32 R.d0, I .u32 R.d1, I .u32 R.d2, I .u32 R.d3, I .i64 R.nv, I .i64 R.nl, I .i64 R.more])), (.loc 1001, some (.own 104 7 (EV))), (.loc 1002, some (.own 22 1 (RG))), (.loc 1008, some (.own 80 2 (L0))), (.loc 1009, some (.own 80 2 (L1))), (.loc 1010, some (.own 80 2 (L2))), (.loc 1011, some (.own 80 2 (L3 ++ (if x.getLsbD j = true then [[C .i64 ((o + j : Nat) : Int), C .i64 ((o + k : Nat) : Int)]] else [])))), (.loc 1012, some (.own 80 2 (L4))), (.loc 19, some (.box 80 [I .i64 ((o + j : Nat) : Int), I .i64 ((o + k : Nat) : Int)]))]⟩) ⟨187, [(0, .pv (.sl 16 (trsL ts))), (2, .ptr (.loc 2) 0), (4, .ptr (.loc 4) 0), (5, I .i64 n), (8, .own (.loc 1008)), (9, .own (.loc 1009)), (10, .own (.loc 1010)), (11, .own (.loc 1011)), (12, .own (.loc 1012)), (13, I .i64 i), (14, I .i64 o), (15, .ptr (.loc 15) 0), (16, I .i64 k), (18, I .i64 j), (19, .ptr (.loc 19) 0)], [(.loc 2, some (.box 40 [.pv (.v (.slice none 0 0)), .pv (.v (.slice none 0 0)), .pv (.v (.slice none 0 0)), .pv (.v (.slice none 0 0)), .pv (.v (.slice none 0 0)), .pv (.v (.slice none 0 0)), .pv (.v (.slice none 0 0))])), (.loc 4, some (.box 40 [.own (.loc 1001), .pv (.v (.slice none 0 0)), .pv (.v (.slice none 0 0)), .pv (.v (.slice none 0 0)), .pv (.v (.slice none 0 0)), .pv (.v (.slice none 0 0)), .own (.loc 1002)])), (.loc 15, some (.box 72 [.pv (.sl 7 (evsL R.es)), .pv (.sl 1 (u32s R.ad)), .pv (.sl 1 (u32s R.da)), .pv (.sl 1 (u32s R.ct)), .pv (.sl 1 (ints R.pa)), I .i64 R.v0, I .i64 R.v1, I .i64 R.v2, I .i64 R.v3, I .u32 R.d0, I .u32 R.d1, I .u32 R.d2, I .u32 R.d3, I .i64 R.nv, I .i64 R.nl, I .i64 R.more])), (.loc 1001, some (.own 104 7 (EV))), (.loc 1002, some (.own 22 1 (RG))), (.loc 1008, some (.own 80 2 (L0))), (.loc 1009, some (.own 80 2 (L1))), (.loc 1010, some (.own 80 2 (L2))), (.loc 1011, some (.own 80 2 (L3))), (.loc 1012, some (.own 80 2 (L4))), (.loc 19, some (.box 80 [I .i64 ((o + j : Nat) : Int), I .i64 ((o + k : Nat) : Int)]))]⟩ := by
  cases hcode
  have hb := c_bit10 (w := x) (k := j) hj
  cases h : x.getLsbD j
  · rw [h] at hb
    repeat' (first
      | refine ar_end rfl ?_
      | refine ar_endD rfl (by kernel_rfl) ?_
      | refine ar_fin rfl ?_
      | refine ar_finD rfl (by kernel_rfl) ?_
      | refine ar_callV Tryz.call42 hb rfl rfl rfl rfl rfl (by simp; done) (by rfl) (by simp; done) ?_
      | refine ar_callV_if Tryz.call42 hb rfl rfl rfl rfl rfl rfl (by simp; done) rfl (by rfl) (by simp; done) ?_
      | exact meet_norm [(.loc 132, .loc 1011)] [0, 2, 4, 5, 8, 9, 10, 11, 12, 13, 14, 15, 16, 18, 19] [.loc 2, .loc 4, .loc 15, .loc 1001, .loc 1002, .loc 1008, .loc 1009, .loc 1010, .loc 1011, .loc 1012, .loc 19] (by simp [h])
      | refine ar_go3 _ rfl (by simp [u32s_len, u32s_getE, hk, ← hx]; exact ⟨rfl, rfl, rfl⟩) rfl ?_
      | refine aw_sregK 35 [0, 2, 4, 5, 8, 9, 10, 11, 12, 13, 14, 15, 16, 18, 19] ?_
      | refine aw_regK 35 [0, 2, 4, 5, 8, 9, 10, 11, 12, 13, 14, 15, 16, 18, 19] ?_
      | refine aw_sregK 36 [0, 2, 4, 5, 8, 9, 10, 11, 12, 13, 14, 15, 16, 18, 19] ?_
      | refine aw_regK 36 [0, 2, 4, 5, 8, 9, 10, 11, 12, 13, 14, 15, 16, 18, 19] ?_
      | refine aw_sreg ?_
      | refine aw_sregD mixed ?_
      | refine aw_ifT (b := true) rfl rfl ?_
      | refine aw_ifF (b := false) rfl rfl ?_
      | refine aw_ifT rfl (by assumption) ?_
      | refine aw_ifF rfl (by assumption) ?_
      | refine aw_ifT rfl (decide_eq_true (by assumption)) ?_
      | refine aw_ifF rfl (decide_eq_false (by assumption)) ?_
      | refine aw_seq ?_
      | refine aw_block ?_
      | refine aw_skip ?_
      | refine aw_region ?_
      | refine aw_region_draw mixed ?_
      | refine aw_exit ?_
      | refine rq_exit ?_
      | refine blockQ_hit ?_
      | refine blockQ_miss (by decide) ?_)
  · rw [h] at hb
    repeat' (first
      | refine ar_end rfl ?_
      | refine ar_endD rfl (by kernel_rfl) ?_
      | refine ar_fin rfl ?_
      | refine ar_finD rfl (by kernel_rfl) ?_
      | refine ar_callV Tryz.call42 hb rfl rfl rfl rfl rfl (by simp; done) (by rfl) (by simp; done) ?_
      | refine ar_callV_if Tryz.call42 hb rfl rfl rfl rfl rfl rfl (by simp; done) rfl (by rfl) (by simp; done) ?_
      | exact meet_norm [(.loc 132, .loc 1011)] [0, 2, 4, 5, 8, 9, 10, 11, 12, 13, 14, 15, 16, 18, 19] [.loc 2, .loc 4, .loc 15, .loc 1001, .loc 1002, .loc 1008, .loc 1009, .loc 1010, .loc 1011, .loc 1012, .loc 19] (by simp [h])
      | refine ar_appO rfl rfl rfl rfl rfl (by simp; exact rfl) rfl (by simp; exact rfl) (by simp; exact rfl) (by simp; exact ⟨rfl, rfl⟩) rfl (by simp; exact rfl) (by simp; done) (by decide) (by simp [hl, maxLen]; try omega) ?_
      | refine ar_go3 _ rfl (by simp [u32s_len, u32s_getE, hk, ← hx]; exact ⟨rfl, rfl, rfl⟩) rfl ?_
      | refine aw_sregK 35 [0, 2, 4, 5, 8, 9, 10, 11, 12, 13, 14, 15, 16, 18, 19] ?_
      | refine aw_regK 35 [0, 2, 4, 5, 8, 9, 10, 11, 12, 13, 14, 15, 16, 18, 19] ?_
      | refine aw_sregK 36 [0, 2, 4, 5, 8, 9, 10, 11, 12, 13, 14, 15, 16, 18, 19] ?_
      | refine aw_regK 36 [0, 2, 4, 5, 8, 9, 10, 11, 12, 13, 14, 15, 16, 18, 19] ?_
      | refine aw_sreg ?_
      | refine aw_sregD mixed ?_
      | refine aw_ifT (b := true) rfl rfl ?_
      | refine aw_ifF (b := false) rfl rfl ?_
      | refine aw_ifT rfl (by assumption) ?_
      | refine aw_ifF rfl (by assumption) ?_
      | refine aw_ifT rfl (decide_eq_true (by assumption)) ?_
      | refine aw_ifF rfl (decide_eq_false (by assumption)) ?_
      | refine aw_seq ?_
      | refine aw_block ?_
      | refine aw_skip ?_
      | refine aw_region ?_
      | refine aw_region_draw mixed ?_
      | refine aw_exit ?_
      | refine rq_exit ?_
      | refine blockQ_hit ?_
      | refine blockQ_miss (by decide) ?_)
end Go.Eng
set_option linter.unusedSimpArgs false
set_option linter.unusedVariables false
set_option linter.constructorNameAsVariable false
set_option autoImplicit false
namespace Go.Eng
open Go Go.RowKit Go.Proofs
def JH (ts : List Rn) (n i o k : Nat) (R : Rn) (ES : List Ev) (RG : List (List Int)) (A0 A1 A2 A3 A4 : List (Nat × Nat)) (x1 x2 x3 : Wd) (p : Int) (j : {j : Nat // j ≤ k}) : AState := ⟨187, [(0, .pv (.sl 16 (trsL ts))), (2, .ptr (.loc 2) 0), (4, .ptr (.loc 4) 0), (5, I .i64 n), (8, .own (.loc 1008)), (9, .own (.loc 1009)), (10, .own (.loc 1010)), (11, .own (.loc 1011)), (12, .own (.loc 1012)), (13, I .i64 i), (14, I .i64 o), (15, .ptr (.loc 15) 0), (16, I .i64 k), (18, I .i64 j.1)], [(.loc 2, some (.box 40 [.pv (.v (.slice none 0 0)), .pv (.v (.slice none 0 0)), .pv (.v (.slice none 0 0)), .pv (.v (.slice none 0 0)), .pv (.v (.slice none 0 0)), .pv (.v (.slice none 0 0)), .pv (.v (.slice none 0 0))])), (.loc 4, some (.box 40 [.own (.loc 1001), .pv (.v (.slice none 0 0)), .pv (.v (.slice none 0 0)), .pv (.v (.slice none 0 0)), .pv (.v (.slice none 0 0)), .pv (.v (.slice none 0 0)), .own (.loc 1002)])), (.loc 15, some (.box 72 [.pv (.sl 7 (evsL R.es)), .pv (.sl 1 (u32s R.ad)), .pv (.sl 1 (u32s R.da)), .pv (.sl 1 (u32s R.ct)), .pv (.sl 1 (ints R.pa)), I .i64 R.v0, I .i64 R.v1, I .i64 R.v2, I .i64 R.v3, I .u32 R.d0, I .u32 R.d1, I .u32 R.d2, I .u32 R.d3, I .i64 R.nv, I .i64 R.nl, I .i64 R.more])), (.loc 1001, some (.own 104 7 (evsL ES))), (.loc 1002, some (.own 22 1 (rgL RG))), (.loc 1008, some (.own 80 2 (prs (A0 ++ pjF o (fun _ => true) k j.1)))), (.loc 1009, some (.own 80 2 (prs (A1 ++ pjF o (fun j => x1.getLsbD j) k j.1)))), (.loc 1010, some (.own 80 2 (prs (A2 ++ pjF o (fun j => x2.getLsbD j) k j.1)))), (.loc 1011, some (.own 80 2 (prs (A3 ++ pjF o (fun j => x3.getLsbD j) k j.1)))), (.loc 1012, some (.own 80 2 (prs (A4 ++ pjF o (fun j : Nat => decide (p = (j : Int))) k j.1))))]⟩
set_option maxHeartbeats 16000000 in
theorem c_Jround {c : Code} {Q : Exit → AState → Prop} {ts : List Rn} {n i o k : Nat} {R : Rn} {ES : List Ev} {RG : List (List Int)} {A0 A1 A2 A3 A4 : List (Nat × Nat)} {x1 x2 x3 : Wd} {p : Int} (hcode : loopAt Tryz.f16 4 = some c) (ho : o + k ≤ 1000) (h0 : A0.length + k ≤ 1000) (h1 : A1.length + k ≤ 1000) (h2 : A2.length + k ≤ 1000) (h3 : A3.length + k ≤ 1000) (h4 : A4.length + k ≤ 1000)
    (ha : k < R.ad.length) (hda : k < R.da.length) (hct : k < R.ct.length) (hpa : k < R.pa.length) (b1 : ub x1 = R.ad[k]) (b2 : ub x2 = R.da[k]) (b3 : ub x3 = R.ct[k]) (hp : R.pa[k] = p)
    (jj : {j : Nat // j ≤ k}) (hlt : jj.1 < k) : AW Tryz.prog c (loopQ (JH ts n i o k R ES RG A0 A1 A2 A3 A4 x1 x2 x3 p) (fun j : {j : Nat // j ≤ k} => k - j.1) jj Q) (JH ts n i o k R ES RG A0 A1 A2 A3 A4 x1 x2 x3 p jj) := by
  cases hcode
  obtain ⟨j, hjk⟩ := jj
  dsimp only at hlt
  simp only [JH]
  have hM : maxLen = 9223372036854775807 := rfl
  have hd3 : (j : Int) < (k : Int) := by omega
  have hw3 : IntKind.wrap .i64 ((j : Int) + 1) = (j : Int) + 1 := wrap64s (by omega) (by omega)
  have hwj : IntKind.wrap .i64 ((o : Int) + (j : Int)) = ((o + j : Nat) : Int) := by rw [wrap64s (by omega) (by omega)]; omega
  have hwk : IntKind.wrap .i64 ((o : Int) + (k : Int)) = ((o + k : Nat) : Int) := by rw [wrap64s (by omega) (by omega)]; omega
  have hsn : ∀ l : List (Nat × Nat), prs (l ++ [(o + j, o + k)]) = prs l ++ [[C .i64 ((o + j : Nat) : Int), C .i64 ((o + k : Nat) : Int)]] := fun l => by simp [prs]
  have y0 : (prs (A0 ++ pjF o (fun _ => true) k j)).length ≤ 1000 := by
    have := pj_len o (fun _ => true) k j
    rw [prs_len, List.length_append]; omega
  have n0 : prs (A0 ++ pjF o (fun _ => true) k (j + 1)) = prs (A0 ++ pjF o (fun _ => true) k j) ++ [[C .i64 ((o + j : Nat) : Int), C .i64 ((o + k : Nat) : Int)]] := by
    have g : pjF o (fun _ => true) k (j + 1) = pjF o (fun _ => true) k j ++ [(o + j, o + k)] := rfl
    rw [g, ← List.append_assoc]
    exact hsn _
  generalize prs (A0 ++ pjF o (fun _ => true) k j) = L0 at *
  have y1 : (prs (A1 ++ pjF o (fun j => x1.getLsbD j) k j)).length ≤ 1000 := by
    have := pj_len o (fun j => x1.getLsbD j) k j
    rw [prs_len, List.length_append]; omega
  have n1 : prs (A1 ++ pjF o (fun j => x1.getLsbD j) k (j + 1)) = prs (A1 ++ pjF o (fun j => x1.getLsbD j) k j) ++ (if x1.getLsbD j = true then [[C .i64 ((o + j : Nat) : Int), C .i64 ((o + k : Nat) : Int)]] else []) := by
    have g : pjF o (fun j => x1.getLsbD j) k (j + 1) = pjF o (fun j => x1.getLsbD j) k j ++ (if x1.getLsbD j = true then [(o + j, o + k)] else []) := rfl
    rw [g, ← List.append_assoc]
    split
    · exact hsn _
    · simp
  generalize prs (A1 ++ pjF o (fun j => x1.getLsbD j) k j) = L1 at *
  have y2 : (prs (A2 ++ pjF o (fun j => x2.getLsbD j) k j)).length ≤ 1000 := by
    have := pj_len o (fun j => x2.getLsbD j) k j
    rw [prs_len, List.length_append]; omega
  have n2 : prs (A2 ++ pjF o (fun j => x2.getLsbD j) k (j + 1)) = prs (A2 ++ pjF o (fun j => x2.getLsbD j) k j) ++ (if x2.getLsbD j = true then [[C .i64 ((o + j : Nat) : Int), C .i64 ((o + k : Nat) : Int)]] else []) := by
    have g : pjF o (fun j => x2.getLsbD j) k (j + 1) = pjF o (fun j => x2.getLsbD j) k j ++ (if x2.getLsbD j = true then [(o + j, o + k)] else []) := rfl
    rw [g, ← List.append_assoc]
    split
    · exact hsn _
    · simp
  generalize prs (A2 ++ pjF o (fun j => x2.getLsbD j) k j) = L2 at *
  have y3 : (prs (A3 ++ pjF o (fun j => x3.getLsbD j) k j)).length ≤ 1000 := by
    have := pj_len o (fun j => x3.getLsbD j) k j
    rw [prs_len, List.length_append]; omega
  have n3 : prs (A3 ++ pjF o (fun j => x3.getLsbD j) k (j + 1)) = prs (A3 ++ pjF o (fun j => x3.getLsbD j) k j) ++ (if x3.getLsbD j = true then [[C .i64 ((o + j : Nat) : Int), C .i64 ((o + k : Nat) : Int)]] else []) := by
    have g : pjF o (fun j => x3.getLsbD j) k (j + 1) = pjF o (fun j => x3.getLsbD j) k j ++ (if x3.getLsbD j = true then [(o + j, o + k)] else []) := rfl
    rw [g, ← List.append_assoc]
    split
    · exact hsn _
    · simp
  generalize prs (A3 ++ pjF o (fun j => x3.getLsbD j) k j) = L3 at *
  have y4 : (prs (A4 ++ pjF o (fun j : Nat => decide (p = (j : Int))) k j)).length ≤ 1000 := by
    have := pj_len o (fun j : Nat => decide (p = (j : Int))) k j
    rw [prs_len, List.length_append]; omega
  have n4 : prs (A4 ++ pjF o (fun j : Nat => decide (p = (j : Int))) k (j + 1)) = prs (A4 ++ pjF o (fun j : Nat => decide (p = (j : Int))) k j) ++ (if decide (p = (j : Int)) = true then [[C .i64 ((o + j : Nat) : Int), C .i64 ((o + k : Nat) : Int)]] else []) := by
    have g : pjF o (fun j : Nat => decide (p = (j : Int))) k (j + 1) = pjF o (fun j : Nat => decide (p = (j : Int))) k j ++ (if decide (p = (j : Int)) = true then [(o + j, o + k)] else []) := rfl
    rw [g, ← List.append_assoc]
    split
    · exact hsn _
    · simp
  generalize prs (A4 ++ pjF o (fun j : Nat => decide (p = (j : Int))) k j) = L4 at *
  clear hsn
  have z0 : (L0 ++ [[C .i64 ((o + j : Nat) : Int), C .i64 ((o + k : Nat) : Int)]]).length ≤ 1001 := by rw [List.length_append]; simp; omega
  repeat' (first
    | refine ar_end rfl ?_
    | refine ar_endD rfl (by kernel_rfl) ?_
    | refine ar_fin rfl ?_
    | refine ar_finD rfl (by kernel_rfl) ?_
    | refine aw_meetN [(.loc 99, .loc 1008)] [0, 2, 4, 5, 8, 9, 10, 11, 12, 13, 14, 15, 16, 18, 19] [.loc 2, .loc 4, .loc 15, .loc 1001, .loc 1002, .loc 1008, .loc 1009, .loc 1010, .loc 1011, .loc 1012, .loc 19] (by simp) (c_J1 (ts := ts) (n := n) (i := i) (o := o) (k := k) (j := j) (R := R) (EV := evsL ES) (RG := rgL RG) (L0 := L0 ++ [[C .i64 ((o + j : Nat) : Int), C .i64 ((o + k : Nat) : Int)]]) (L1 := L1) (L2 := L2) (L3 := L3) (L4 := L4) (x := x1) rfl y1 ha b1 (by omega)) ?_
    | refine aw_meetN [] [0, 2, 4, 5, 8, 9, 10, 11, 12, 13, 14, 15, 16, 18, 19] [.loc 2, .loc 4, .loc 15, .loc 1001, .loc 1002, .loc 1008, .loc 1009, .loc 1010, .loc 1011, .loc 1012, .loc 19] (by simp) (c_J2 (ts := ts) (n := n) (i := i) (o := o) (k := k) (j := j) (R := R) (EV := evsL ES) (RG := rgL RG) (L0 := L0 ++ [[C .i64 ((o + j : Nat) : Int), C .i64 ((o + k : Nat) : Int)]]) (L1 := L1 ++ (if x1.getLsbD j = true then [[C .i64 ((o + j : Nat) : Int), C .i64 ((o + k : Nat) : Int)]] else [])) (L2 := L2) (L3 := L3) (L4 := L4) (x := x2) rfl y2 hda b2 (by omega)) ?_
    | refine aw_meetN [] [0, 2, 4, 5, 8, 9, 10, 11, 12, 13, 14, 15, 16, 18, 19] [.loc 2, .loc 4, .loc 15, .loc 1001, .loc 1002, .loc 1008, .loc 1009, .loc 1010, .loc 1011, .loc 1012, .loc 19] (by simp) (c_J3 (ts := ts) (n := n) (i := i) (o := o) (k := k) (j := j) (R := R) (EV := evsL ES) (RG := rgL RG) (L0 := L0 ++ [[C .i64 ((o + j : Nat) : Int), C .i64 ((o + k : Nat) : Int)]]) (L1 := L1 ++ (if x1.getLsbD j = true then [[C .i64 ((o + j : Nat) : Int), C .i64 ((o + k : Nat) : Int)]] else [])) (L2 := L2 ++ (if x2.getLsbD j = true then [[C .i64 ((o + j : Nat) : Int), C .i64 ((o + k : Nat) : Int)]] else [])) (L3 := L3) (L4 := L4) (x := x3) rfl y3 hct b3 (by omega)) ?_
    | refine ar_appO rfl rfl rfl rfl rfl (by simp; exact rfl) rfl (by simp; exact rfl) (by simp; exact rfl) (by simp; exact ⟨rfl, rfl⟩) rfl (by simp; exact rfl) (by simp; done) (by decide) (by simp [y0, maxLen]; try omega) ?_
    | refine ar_go3 _ rfl (by simp [hd3, hwj, hwk]; exact ⟨rfl, rfl, rfl⟩) rfl ?_
    | refine aw_sregK 27 [0, 2, 4, 5, 8, 9, 10, 11, 12, 13, 14, 15, 16, 18] ?_
    | refine aw_regK 27 [0, 2, 4, 5, 8, 9, 10, 11, 12, 13, 14, 15, 16, 18] ?_
    | refine aw_sregK 29 [0, 2, 4, 5, 8, 9, 10, 11, 12, 13, 14, 15, 16, 18] ?_
    | refine aw_regK 29 [0, 2, 4, 5, 8, 9, 10, 11, 12, 13, 14, 15, 16, 18] ?_
    | refine aw_sregK 30 [0, 2, 4, 5, 8, 9, 10, 11, 12, 13, 14, 15, 16, 18, 19] ?_
    | refine aw_regK 30 [0, 2, 4, 5, 8, 9, 10, 11, 12, 13, 14, 15, 16, 18, 19] ?_
    | refine aw_sreg ?_
    | refine aw_sregD mixed ?_
    | refine aw_ifT (b := true) rfl rfl ?_
    | refine aw_ifF (b := false) rfl rfl ?_
    | refine aw_ifT rfl (by assumption) ?_
    | refine aw_ifF rfl (by assumption) ?_
    | refine aw_ifT rfl (decide_eq_true (by assumption)) ?_
    | refine aw_ifF rfl (decide_eq_false (by assumption)) ?_
    | refine aw_seq ?_
    | refine aw_block ?_
    | refine aw_skip ?_
    | refine aw_region ?_
    | refine aw_region_draw mixed ?_
    | refine aw_exit ?_
    | refine rq_exit ?_
    | refine blockQ_hit ?_
    | refine blockQ_miss (by decide) ?_)
  by_cases he : p = (j : Int)
  · rw [decide_eq_true he, if_pos rfl] at n4
    repeat' (first
      | refine ar_end rfl ?_
      | refine ar_endD rfl (by kernel_rfl) ?_
      | refine ar_fin rfl ?_
      | refine ar_finD rfl (by kernel_rfl) ?_
      | refine ar_appO rfl rfl rfl rfl rfl (by simp; exact rfl) rfl (by simp; exact rfl) (by simp; exact rfl) (by simp; exact ⟨rfl, rfl⟩) rfl (by simp; exact rfl) (by simp; done) (by decide) (by simp [y4, maxLen]; try omega) ?_
      | refine bq_norm ?_
      | refine lq_normRs [(.loc 99, .loc 1008), (.loc 110, .loc 1009), (.loc 121, .loc 1010), (.loc 132, .loc 1011), (.loc 143, .loc 1012)] [0, 2, 4, 5, 8, 9, 10, 11, 12, 13, 14, 15, 16, 18] [.loc 2, .loc 4, .loc 15, .loc 1001, .loc 1002, .loc 1008, .loc 1009, .loc 1010, .loc 1011, .loc 1012] (by simp; exact rfl) ⟨j + 1, by omega⟩ (by dsimp only; omega) (by simp [JH, n0, n1, n2, n3, n4])
      | refine ar_go3 _ rfl (by simp [ints_len, ints_getE, hpa, hp, he, hw3]; exact ⟨rfl, rfl, rfl⟩) rfl ?_
      | refine aw_sregK 28 [0, 2, 4, 5, 8, 9, 10, 11, 12, 13, 14, 15, 16, 18] ?_
      | refine aw_regK 28 [0, 2, 4, 5, 8, 9, 10, 11, 12, 13, 14, 15, 16, 18] ?_
      | refine aw_sregK 37 [0, 2, 4, 5, 8, 9, 10, 11, 12, 13, 14, 15, 16, 18, 19] ?_
      | refine aw_regK 37 [0, 2, 4, 5, 8, 9, 10, 11, 12, 13, 14, 15, 16, 18, 19] ?_
      | refine aw_sregK 38 [0, 2, 4, 5, 8, 9, 10, 11, 12, 13, 14, 15, 16, 18, 19] ?_
      | refine aw_regK 38 [0, 2, 4, 5, 8, 9, 10, 11, 12, 13, 14, 15, 16, 18, 19] ?_
      | refine aw_sreg ?_
      | refine aw_sregD mixed ?_
      | refine aw_ifT (b := true) rfl rfl ?_
      | refine aw_ifF (b := false) rfl rfl ?_
      | refine aw_ifT rfl (by assumption) ?_
      | refine aw_ifF rfl (by assumption) ?_
      | refine aw_ifT rfl (decide_eq_true (by assumption)) ?_
      | refine aw_ifF rfl (decide_eq_false (by assumption)) ?_
      | refine aw_seq ?_
      | refine aw_block ?_
      | refine aw_skip ?_
      | refine aw_region ?_
      | refine aw_region_draw mixed ?_
      | refine aw_exit ?_
      | refine rq_exit ?_
      | refine blockQ_hit ?_
      | refine blockQ_miss (by decide) ?_)
  · rw [decide_eq_false he, if_neg (by decide), List.append_nil] at n4
    repeat' (first
      | refine ar_end rfl ?_
      | refine ar_endD rfl (by kernel_rfl) ?_
      | refine ar_fin rfl ?_
      | refine ar_finD rfl (by kernel_rfl) ?_
      | refine bq_norm ?_
      | refine lq_normRs [(.loc 99, .loc 1008), (.loc 110, .loc 1009), (.loc 121, .loc 1010), (.loc 132, .loc 1011), (.loc 143, .loc 1012)] [0, 2, 4, 5, 8, 9, 10, 11, 12, 13, 14, 15, 16, 18] [.loc 2, .loc 4, .loc 15, .loc 1001, .loc 1002, .loc 1008, .loc 1009, .loc 1010, .loc 1011, .loc 1012] (by simp; exact rfl) ⟨j + 1, by omega⟩ (by dsimp only; omega) (by simp [JH, n0, n1, n2, n3, n4])
      | refine ar_go3 _ rfl (by simp [ints_len, ints_getE, hpa, hp, he, hw3]; exact ⟨rfl, rfl, rfl⟩) rfl ?_
      | refine aw_sregK 28 [0, 2, 4, 5, 8, 9, 10, 11, 12, 13, 14, 15, 16, 18] ?_
      | refine aw_regK 28 [0, 2, 4, 5, 8, 9, 10, 11, 12, 13, 14, 15, 16, 18] ?_
      | refine aw_sregK 37 [0, 2, 4, 5, 8, 9, 10, 11, 12, 13, 14, 15, 16, 18, 19] ?_
      | refine aw_regK 37 [0, 2, 4, 5, 8, 9, 10, 11, 12, 13, 14, 15, 16, 18, 19] ?_
      | refine aw_sregK 38 [0, 2, 4, 5, 8, 9, 10, 11, 12, 13, 14, 15, 16, 18, 19] ?_
      | refine aw_regK 38 [0, 2, 4, 5, 8, 9, 10, 11, 12, 13, 14, 15, 16, 18, 19] ?_
      | refine aw_sreg ?_
      | refine aw_sregD mixed ?_
      | refine aw_ifT (b := true) rfl rfl ?_
      | refine aw_ifF (b := false) rfl rfl ?_
      | refine aw_ifT rfl (by assumption) ?_
      | refine aw_ifF rfl (by assumption) ?_
      | refine aw_ifT rfl (decide_eq_true (by assumption)) ?_
      | refine aw_ifF rfl (decide_eq_false (by assumption)) ?_
      | refine aw_seq ?_
      | refine aw_block ?_
      | refine aw_skip ?_
      | refine aw_region ?_
      | refine aw_region_draw mixed ?_
      | refine aw_exit ?_
      | refine rq_exit ?_
      | refine blockQ_hit ?_
      | refine blockQ_miss (by decide) ?_)
end Go.Eng
set_option linter.unusedSimpArgs false
set_option linter.unusedVariables false
set_option linter.constructorNameAsVariable false
set_option autoImplicit false
namespace Go.Eng
open Go Go.RowKit Go.Proofs
def q0 : Rn → Nat → Nat → Bool := (fun _ _ _ => true)
def q1 : Rn → Nat → Nat → Bool := (fun R k j => (mw R.ad k).getLsbD j)
def q2 : Rn → Nat → Nat → Bool := (fun R k j => (mw R.da k).getLsbD j)
def q3 : Rn → Nat → Nat → Bool := (fun R k j => (mw R.ct k).getLsbD j)
def q4 : Rn → Nat → Nat → Bool := (fun R k j => decide (R.pa.getD k 0 = (j : Int)))
def thE (th : Int) (x : Ev) : Ev := { x with th := th }
def KH (ts : List Rn) (n i o : Nat) (R : Rn) (E : List Ev) (G : List (List Int)) (P0 P1 P2 P3 P4 : List (Nat × Nat)) (k : {k : Nat // k ≤ R.es.length}) : AState := ⟨187, [(0, .pv (.sl 16 (trsL ts))), (2, .ptr (.loc 2) 0), (4, .ptr (.loc 4) 0), (5, I .i64 n), (8, .own (.loc 1008)), (9, .own (.loc 1009)), (10, .own (.loc 1010)), (11, .own (.loc 1011)), (12, .own (.loc 1012)), (13, I .i64 i), (14, I .i64 o), (15, .ptr (.loc 15) 0), (16, I .i64 k.1)], [(.loc 2, some (.box 40 [.pv (.v (.slice none 0 0)), .pv (.v (.slice none 0 0)), .pv (.v (.slice none 0 0)), .pv (.v (.slice none 0 0)), .pv (.v (.slice none 0 0)), .pv (.v (.slice none 0 0)), .pv (.v (.slice none 0 0))])), (.loc 4, some (.box 40 [.own (.loc 1001), .pv (.v (.slice none 0 0)), .pv (.v (.slice none 0 0)), .pv (.v (.slice none 0 0)), .pv (.v (.slice none 0 0)), .pv (.v (.slice none 0 0)), .own (.loc 1002)])), (.loc 15, some (.box 72 [.pv (.sl 7 (evsL R.es)), .pv (.sl 1 (u32s R.ad)), .pv (.sl 1 (u32s R.da)), .pv (.sl 1 (u32s R.ct)), .pv (.sl 1 (ints R.pa)), I .i64 R.v0, I .i64 R.v1, I .i64 R.v2, I .i64 R.v3, I .u32 R.d0, I .u32 R.d1, I .u32 R.d2, I .u32 R.d3, I .i64 R.nv, I .i64 R.nl, I .i64 R.more])), (.loc 1001, some (.own 104 7 (evsL (E ++ (R.es.take k.1).map (thE i))))), (.loc 1002, some (.own 22 1 (rgL G))), (.loc 1008, some (.own 80 2 (prs (P0 ++ ptF o (q0 R) k.1)))), (.loc 1009, some (.own 80 2 (prs (P1 ++ ptF o (q1 R) k.1)))), (.loc 1010, some (.own 80 2 (prs (P2 ++ ptF o (q2 R) k.1)))), (.loc 1011, some (.own 80 2 (prs (P3 ++ ptF o (q3 R) k.1)))), (.loc 1012, some (.own 80 2 (prs (P4 ++ ptF o (q4 R) k.1))))]⟩
set_option maxHeartbeats 16000000 in
theorem c_Kround {c : Code} {Q : Exit → AState → Prop} {ts : List Rn} {n i o : Nat} {R : Rn} {E : List Ev} {G : List (List Int)} {P0 P1 P2 P3 P4 : List (Nat × Nat)} (hcode : loopAt Tryz.f16 3 = some c) (hfk : FineR R) (ho : o + R.es.length ≤ 100) (hel : E.length = o) (h0 : P0.length ≤ 640) (h1 : P1.length ≤ 640) (h2 : P2.length ≤ 640) (h3 : P3.length ≤ 640) (h4 : P4.length ≤ 640)
    (kk : {k : Nat // k ≤ R.es.length}) (hkl : kk.1 < R.es.length) : AW Tryz.prog c (loopQ (KH ts n i o R E G P0 P1 P2 P3 P4) (fun k : {k : Nat // k ≤ R.es.length} => R.es.length - k.1) kk Q) (KH ts n i o R E G P0 P1 P2 P3 P4 kk) := by
  cases hcode
  obtain ⟨k, hk⟩ := kk
  dsimp only at hkl
  simp only [KH]
  have hM : maxLen = 9223372036854775807 := rfl
  have ok := hfk.ok
  have hes := ok.es
  have hd2 : (k : Int) < (R.es.length : Int) := by omega
  have hw2 : IntKind.wrap .i64 ((k : Int) + 1) = (k : Int) + 1 := wrap64s (by omega) (by omega)
  have ha : k < R.ad.length := by rw [ok.ad]; exact hkl
  have hda : k < R.da.length := by rw [ok.da]; exact hkl
  have hct : k < R.ct.length := by rw [ok.ct]; exact hkl
  have hpa : k < R.pa.length := by rw [ok.pa]; exact hkl
  have b1 : ub (mw R.ad k) = R.ad[k] := by unfold mw; rw [getD_at ha]; exact ub_of (hfk.ad _ (List.getElem_mem ha))
  have b2 : ub (mw R.da k) = R.da[k] := by unfold mw; rw [getD_at hda]; exact ub_of (hfk.da _ (List.getElem_mem hda))
  have b3 : ub (mw R.ct k) = R.ct[k] := by unfold mw; rw [getD_at hct]; exact ub_of (hfk.ct _ (List.getElem_mem hct))
  have hpe : R.pa.getD k 0 = R.pa[k] := getD_at hpa
  have e1 : q1 R k = fun j => (mw R.ad k).getLsbD j := rfl
  have e2 : q2 R k = fun j => (mw R.da k).getLsbD j := rfl
  have e3 : q3 R k = fun j => (mw R.ct k).getLsbD j := rfl
  have e4 : q4 R k = fun j : Nat => decide (R.pa[k] = (j : Int)) := by unfold q4; rw [hpe]
  have e0 : q0 R k = fun _ => true := rfl
  have hev : (R.es.take (k + 1)).map (thE i) = (R.es.take k).map (thE i) ++ [thE i R.es[k]] := by rw [List.take_add_one, List.getElem?_eq_getElem hkl, List.map_append]; rfl
  have hevl : ((R.es.take k).map (thE i)).length = k := by rw [List.length_map, List.length_take]; omega
  have hkk : k * k ≤ 64 := Nat.mul_le_mul (show k ≤ 8 by omega) (show k ≤ 8 by omega)
  have hs0 : ptF o (q0 R) (k + 1) = ptF o (q0 R) k ++ pjF o (q0 R k) k k := rfl
  have t0 := pt_len o (q0 R) k
  rw [e0] at hs0
  have w0 : (P0 ++ ptF o (q0 R) k).length + k ≤ 1000 := by rw [List.length_append]; omega
  have nn0 : P0 ++ ptF o (q0 R) (k + 1) = (P0 ++ ptF o (q0 R) k) ++ pjF o (fun _ => true) k k := by rw [hs0, List.append_assoc]
  generalize P0 ++ ptF o (q0 R) k = A0 at *
  have hs1 : ptF o (q1 R) (k + 1) = ptF o (q1 R) k ++ pjF o (q1 R k) k k := rfl
  have t1 := pt_len o (q1 R) k
  rw [e1] at hs1
  have w1 : (P1 ++ ptF o (q1 R) k).length + k ≤ 1000 := by rw [List.length_append]; omega
  have nn1 : P1 ++ ptF o (q1 R) (k + 1) = (P1 ++ ptF o (q1 R) k) ++ pjF o (fun j => (mw R.ad k).getLsbD j) k k := by rw [hs1, List.append_assoc]
  generalize P1 ++ ptF o (q1 R) k = A1 at *
  have hs2 : ptF o (q2 R) (k + 1) = ptF o (q2 R) k ++ pjF o (q2 R k) k k := rfl
  have t2 := pt_len o (q2 R) k
  rw [e2] at hs2
  have w2 : (P2 ++ ptF o (q2 R) k).length + k ≤ 1000 := by rw [List.length_append]; omega
  have nn2 : P2 ++ ptF o (q2 R) (k + 1) = (P2 ++ ptF o (q2 R) k) ++ pjF o (fun j => (mw R.da k).getLsbD j) k k := by rw [hs2, List.append_assoc]
  generalize P2 ++ ptF o (q2 R) k = A2 at *
  have hs3 : ptF o (q3 R) (k + 1) = ptF o (q3 R) k ++ pjF o (q3 R k) k k := rfl
  have t3 := pt_len o (q3 R) k
  rw [e3] at hs3
  have w3 : (P3 ++ ptF o (q3 R) k).length + k ≤ 1000 := by rw [List.length_append]; omega
  have nn3 : P3 ++ ptF o (q3 R) (k + 1) = (P3 ++ ptF o (q3 R) k) ++ pjF o (fun j => (mw R.ct k).getLsbD j) k k := by rw [hs3, List.append_assoc]
  generalize P3 ++ ptF o (q3 R) k = A3 at *
  have hs4 : ptF o (q4 R) (k + 1) = ptF o (q4 R) k ++ pjF o (q4 R k) k k := rfl
  have t4 := pt_len o (q4 R) k
  rw [e4] at hs4
  have w4 : (P4 ++ ptF o (q4 R) k).length + k ≤ 1000 := by rw [List.length_append]; omega
  have nn4 : P4 ++ ptF o (q4 R) (k + 1) = (P4 ++ ptF o (q4 R) k) ++ pjF o (fun j : Nat => decide (R.pa[k] = (j : Int))) k k := by rw [hs4, List.append_assoc]
  generalize P4 ++ ptF o (q4 R) k = A4 at *
  have hyi : evL (thE i R.es[k]) = [C .i64 i, C .i64 R.es[k].k, C .i64 R.es[k].l, C .i64 R.es[k].v, bo R.es[k].acq, bo R.es[k].rel, bo R.es[k].ex] := rfl
  have hevs : evsL ((E ++ (R.es.take k).map (thE i)) ++ [thE i R.es[k]]) = evsL (E ++ (R.es.take k).map (thE i)) ++ [evL (thE i R.es[k])] := by simp [evsL]
  have hesn : E ++ (R.es.take (k + 1)).map (thE i) = (E ++ (R.es.take k).map (thE i)) ++ [thE i R.es[k]] := by rw [hev, List.append_assoc]
  have hesn2 : E ++ (R.es.map (thE i)).take (k + 1) = (E ++ (R.es.take k).map (thE i)) ++ [thE i R.es[k]] := by rw [← List.map_take]; exact hesn
  have hen : (E ++ (R.es.take k).map (thE i)).length ≤ 1000 := by rw [List.length_append, hevl]; omega
  generalize E ++ (R.es.take k).map (thE i) = ES at *
  clear hev hevl
  generalize hy : R.es[k] = y at *
  generalize hp : R.pa[k] = p at *
  generalize mw R.ad k = x1 at *
  generalize mw R.da k = x2 at *
  generalize mw R.ct k = x3 at *
  repeat' (first
    | refine ar_end rfl ?_
    | refine ar_endD rfl (by kernel_rfl) ?_
    | refine ar_fin rfl ?_
    | refine ar_finD rfl (by kernel_rfl) ?_
    | refine ar_appO rfl rfl rfl rfl rfl (by simp; exact rfl) rfl (by simp; exact rfl) (by simp; exact rfl) (by simp; exact ⟨rfl, rfl⟩) rfl (by simp; exact rfl) (by simp; done) (by decide) (by simp [evsL_len, hen, maxLen]; try omega) ?_
    | refine ar_go3 _ rfl (by simp [evsL_len, evsL_getE, evL, hkl, hd2, hy]; exact ⟨rfl, rfl, rfl⟩) rfl ?_
    | refine aw_sregK 21 [0, 2, 4, 5, 8, 9, 10, 11, 12, 13, 14, 15, 16] ?_
    | refine aw_regK 21 [0, 2, 4, 5, 8, 9, 10, 11, 12, 13, 14, 15, 16] ?_
    | refine aw_sregK 23 [0, 2, 4, 5, 8, 9, 10, 11, 12, 13, 14, 15, 16] ?_
    | refine aw_regK 23 [0, 2, 4, 5, 8, 9, 10, 11, 12, 13, 14, 15, 16] ?_
    | refine aw_sregK 24 [0, 2, 4, 5, 8, 9, 10, 11, 12, 13, 14, 15, 16, 17] ?_
    | refine aw_regK 24 [0, 2, 4, 5, 8, 9, 10, 11, 12, 13, 14, 15, 16, 17] ?_
    | refine aw_sregK 25 [0, 2, 4, 5, 8, 9, 10, 11, 12, 13, 14, 15, 16, 17] ?_
    | refine aw_regK 25 [0, 2, 4, 5, 8, 9, 10, 11, 12, 13, 14, 15, 16, 17] ?_
    | refine aw_sregK 26 [0, 2, 4, 5, 8, 9, 10, 11, 12, 13, 14, 15, 16] ?_
    | refine aw_regK 26 [0, 2, 4, 5, 8, 9, 10, 11, 12, 13, 14, 15, 16] ?_
    | refine aw_sreg ?_
    | refine aw_sregD mixed ?_
    | refine aw_ifT (b := true) rfl rfl ?_
    | refine aw_ifF (b := false) rfl rfl ?_
    | refine aw_ifT rfl (by assumption) ?_
    | refine aw_ifF rfl (by assumption) ?_
    | refine aw_ifT rfl (decide_eq_true (by assumption)) ?_
    | refine aw_ifF rfl (decide_eq_false (by assumption)) ?_
    | refine aw_seq ?_
    | refine aw_block ?_
    | refine aw_skip ?_
    | refine aw_region ?_
    | refine aw_region_draw mixed ?_
    | refine aw_exit ?_
    | refine rq_exit ?_
    | refine blockQ_hit ?_
    | refine blockQ_miss (by decide) ?_)
  refine aw_ren (.loc 82) (.loc 1001) (by simp; exact rfl) ?_
  refine aw_loopN [0, 2, 4, 5, 8, 9, 10, 11, 12, 13, 14, 15, 16, 18] [.loc 2, .loc 4, .loc 15, .loc 1001, .loc 1002, .loc 1008, .loc 1009, .loc 1010, .loc 1011, .loc 1012] (by simp; exact rfl) (JH ts n i o k R (ES ++ [thE i y]) G A0 A1 A2 A3 A4 x1 x2 x3 p) (fun j : {j : Nat // j ≤ k} => k - j.1) ⟨0, by omega⟩ (by simp [JH, pjF, hevs, hyi]) ?_
  intro jj
  by_cases hjl : jj.1 < k
  · exact c_Jround rfl (by omega) w0 w1 w2 w3 w4 ha hda hct hpa b1 b2 b3 hp jj hjl
  obtain ⟨j, hj⟩ := jj
  dsimp only at hjl
  simp only [JH]
  have hd3 : ¬(j : Int) < (k : Int) := by omega
  have hje : j = k := by omega
  subst hje
  repeat' (first
    | refine ar_end rfl ?_
    | refine ar_endD rfl (by kernel_rfl) ?_
    | refine ar_fin rfl ?_
    | refine ar_finD rfl (by kernel_rfl) ?_
    | refine lq_exit ?_
    | refine bq_norm ?_
    | refine lq_normN [0, 2, 4, 5, 8, 9, 10, 11, 12, 13, 14, 15, 16] [.loc 2, .loc 4, .loc 15, .loc 1001, .loc 1002, .loc 1008, .loc 1009, .loc 1010, .loc 1011, .loc 1012] (by simp; exact rfl) ⟨j + 1, by omega⟩ (by dsimp only; omega) (by simp [KH, hesn, hesn2, nn0, nn1, nn2, nn3, nn4])
    | refine ar_go3 _ rfl (by simp [hd3, hw2]; exact ⟨rfl, rfl, rfl⟩) rfl ?_
    | refine aw_sregK 22 [0, 2, 4, 5, 8, 9, 10, 11, 12, 13, 14, 15, 16] ?_
    | refine aw_regK 22 [0, 2, 4, 5, 8, 9, 10, 11, 12, 13, 14, 15, 16] ?_
    | refine aw_sregK 27 [0, 2, 4, 5, 8, 9, 10, 11, 12, 13, 14, 15, 16, 18] ?_
    | refine aw_regK 27 [0, 2, 4, 5, 8, 9, 10, 11, 12, 13, 14, 15, 16, 18] ?_
    | refine aw_sreg ?_
    | refine aw_sregD mixed ?_
    | refine aw_ifT (b := true) rfl rfl ?_
    | refine aw_ifF (b := false) rfl rfl ?_
    | refine aw_ifT rfl (by assumption) ?_
    | refine aw_ifF rfl (by assumption) ?_
    | refine aw_ifT rfl (decide_eq_true (by assumption)) ?_
    | refine aw_ifF rfl (decide_eq_false (by assumption)) ?_
    | refine aw_seq ?_
    | refine aw_block ?_
    | refine aw_skip ?_
    | refine aw_region ?_
    | refine aw_region_draw mixed ?_
    | refine aw_exit ?_
    | refine rq_exit ?_
    | refine blockQ_hit ?_
    | refine blockQ_miss (by decide) ?_)
end Go.Eng
