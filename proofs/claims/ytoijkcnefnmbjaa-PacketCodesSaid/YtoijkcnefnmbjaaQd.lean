/-
  Which messages are valid: both texts.
-/
import Derived.Test.YtoijkcnefnmbjaaQc
namespace Go.Proofs.Ytoijkcnefnmbjaa
open Go.RowKit
def zAd : Ad := ⟨false, 0, 0⟩
def zMac : List Int := [0, 0, 0, 0, 0, 0]
def validN (n : Nb) : Bool := decide (133 ≤ n.k) && (decide (n.k ≤ 137) && (decide (0 ≤ n.fl) && (decide (n.fl ≤ 7) && ((n.fl == 0 || n.k == 136) && ((n.has || decide (n.ln = zMac)) && (if targB n.k then n.tg.v6 && !grpA n.tg else eqA n.tg zAd))))))
theorem nb_tkM {n : Nb} (h : n.ln.length = 6) : Tk (nbC n) (0 + 6) 6 (bytesC n.ln) := by
  refine ⟨by rw [bytesC_len, h], fun j c hj => ?_⟩
  unfold nbC
  have e : ([AV.base (.int .i64 n.k), AV.base (.int .i64 n.fl)] ++ adC n.tg ++ [AV.base (.bool n.has)]).length = 6 := by simp [adC]
  rw [List.getElem?_append_right (by omega), e]
  rw [show 0 + 6 + j - 6 = j from by omega]
  exact hj
theorem nb_tkA (n : Nb) : Tk (nbC n) (0 + 2) 3 (adC n.tg) := ⟨rfl, fun j c hj => by
  match j with
  | 0 => exact hj
  | 1 => exact hj
  | 2 => exact hj
  | j + 3 => simp [adC] at hj⟩
set_option maxHeartbeats 1000000 in
theorem nvalid_any (n : Nb) (hl : n.ln.length = 6) : AFn Try.prog 26 0 [.agg (nbC n)] mt (.base (.bool (validN n))) mt := by
  refine AFn.eq Try.func26 rfl rfl (Nat.le_of_ble_eq_true rfl) ?_
  have htg := targeted_any
  have hgr := group_any
  repeat (refine W.seq ?_)
  refine W.region 0 2 (by decide) rfl rfl ?_
  refine RW.opd rfl rfl (LO.box rfl rfl rfl) ?_
  refine RW.opd rfl rfl (LO.assign rfl rfl) ?_
  refine RW.nil ?_
  repeat (refine W.seq ?_)
  refine W.block ?_
  repeat (refine W.seq ?_)
  refine W.region 6 26 (by decide) rfl rfl ?_
  refine RW.opd rfl rfl (LO.fieldAddr rfl rfl ty52 rfl (by decide)) ?_
  refine RW.opd rfl rfl (LO.load rfl rfl rfl rfl ty3 rfl) ?_
  refine RW.opd rfl rfl (LO.lss rfl rfl rfl) ?_
  refine RW.opd rfl rfl (LO.move rfl rfl) ?_
  refine RW.split (t := 7) rfl (fun hb1 => ?_) (fun hb1 => ?_)
  ·
    try (have hb1p := of_decide_eq_true hb1)
    try (have hb1q := eq_of_beq hb1)
    refine RW.sd rfl rfl rfl hb1 rfl ?_
    refine RW.sd rfl rfl rfl hb1 rfl ?_
    refine RW.sd rfl rfl rfl hb1 rfl ?_
    refine RW.opd rfl rfl (LO.pick_t rfl rfl hb1 rfl) ?_
    refine RW.opd rfl rfl (LO.move rfl rfl) ?_
    refine RW.sd rfl rfl rfl rfl rfl ?_
    refine RW.sd rfl rfl rfl rfl rfl ?_
    refine RW.sd rfl rfl rfl rfl rfl ?_
    refine RW.sd rfl rfl rfl rfl rfl ?_
    refine RW.ud rfl rfl rfl rfl ?_
    refine RW.ud rfl rfl rfl rfl ?_
    refine RW.ud rfl rfl rfl rfl ?_
    refine RW.ud rfl rfl rfl rfl ?_
    refine RW.sd rfl rfl rfl rfl rfl ?_
    refine RW.opd rfl rfl (LO.pick_t rfl rfl rfl rfl) ?_
    refine RW.opd rfl rfl (LO.assign rfl rfl) ?_
    refine RW.nil ?_
    repeat (refine W.seq ?_)
    refine W.cond_t rfl rfl ?_
    repeat (refine W.seq ?_)
    refine W.region 30 31 (by decide) rfl rfl ?_
    refine RW.opd rfl rfl (LO.assign rfl rfl) ?_
    refine RW.nil ?_
    repeat (refine W.seq ?_)
    refine W.ret ⟨.inl rfl, _, mt, RVs.cons (RV.tmp rfl) (RVs.nil), all_mt, ?_⟩
    exact ⟨by (simp_all [validN, retOf]) <;> (first | omega | (rw [Bool.eq_iff_iff]; simp only [Bool.and_eq_true, Bool.or_eq_true, decide_eq_true_eq, beq_iff_eq]; omega)), rfl⟩
  ·
    try (have hb1p := of_decide_eq_false hb1)
    try (have hb1q := ne_of_beq_false hb1)
    refine RW.gd rfl rfl rfl hb1 rfl (LO.fieldAddr rfl rfl ty52 rfl (by decide)) ?_
    refine RW.gd rfl rfl rfl hb1 rfl (LO.load rfl rfl rfl rfl ty3 rfl) ?_
    refine RW.gd rfl rfl rfl hb1 rfl (LO.gtr rfl rfl rfl) ?_
    refine RW.opd rfl rfl (LO.pick_f rfl rfl hb1 rfl) ?_
    refine RW.opd rfl rfl (LO.move rfl rfl) ?_
    refine RW.split (t := 12) rfl (fun hb2 => ?_) (fun hb2 => ?_)
    ·
      try (have hb2p := of_decide_eq_true hb2)
      try (have hb2q := eq_of_beq hb2)
      refine RW.sd rfl rfl rfl hb2 rfl ?_
      refine RW.sd rfl rfl rfl hb2 rfl ?_
      refine RW.sd rfl rfl rfl hb2 rfl ?_
      refine RW.sd rfl rfl rfl hb2 rfl ?_
      refine RW.ud rfl rfl rfl rfl ?_
      refine RW.ud rfl rfl rfl rfl ?_
      refine RW.ud rfl rfl rfl rfl ?_
      refine RW.ud rfl rfl rfl rfl ?_
      refine RW.sd rfl rfl rfl hb2 rfl ?_
      refine RW.opd rfl rfl (LO.pick_t rfl rfl hb2 rfl) ?_
      refine RW.opd rfl rfl (LO.assign rfl rfl) ?_
      refine RW.nil ?_
      repeat (refine W.seq ?_)
      refine W.cond_t rfl rfl ?_
      repeat (refine W.seq ?_)
      refine W.region 30 31 (by decide) rfl rfl ?_
      refine RW.opd rfl rfl (LO.assign rfl rfl) ?_
      refine RW.nil ?_
      repeat (refine W.seq ?_)
      refine W.ret ⟨.inl rfl, _, mt, RVs.cons (RV.tmp rfl) (RVs.nil), all_mt, ?_⟩
      exact ⟨by (simp_all [validN, retOf]) <;> (first | omega | (rw [Bool.eq_iff_iff]; simp only [Bool.and_eq_true, Bool.or_eq_true, decide_eq_true_eq, beq_iff_eq]; omega)), rfl⟩
    ·
      try (have hb2p := of_decide_eq_false hb2)
      try (have hb2q := ne_of_beq_false hb2)
      refine RW.gd rfl rfl rfl hb2 rfl (LO.fieldAddr rfl rfl ty52 rfl (by decide)) ?_
      refine RW.gd rfl rfl rfl hb2 rfl (LO.load rfl rfl rfl rfl ty4 rfl) ?_
      refine RW.gd rfl rfl rfl hb2 rfl (LO.not rfl rfl) ?_
      refine RW.gd rfl rfl rfl hb2 rfl (LO.move rfl rfl) ?_
      refine RW.split (t := 16) rfl (fun hb3 => ?_) (fun hb3 => ?_)
      ·
        try (have hb3p := of_decide_eq_true hb3)
        try (have hb3q := eq_of_beq hb3)
        refine RW.gd rfl rfl rfl hb3 rfl (LO.fieldAddr rfl rfl ty52 rfl (by decide)) ?_
        refine RW.gd rfl rfl rfl hb3 rfl (LO.load_agg rfl rfl rfl ty50 rfl (nb_tkM hl)) ?_
        refine RW.gd rfl rfl rfl hb3 rfl (LO.build_ar rfl ty50 ty5 .nil) ?_
        refine RW.gd rfl rfl rfl hb3 rfl (LO.neq_mac n.ln zMac hl rfl rfl rfl rfl) ?_
        refine RW.gd rfl rfl rfl hb2 rfl (LO.pick_t rfl rfl hb3 rfl) ?_
        refine RW.opd rfl rfl (LO.pick_f rfl rfl hb2 rfl) ?_
        refine RW.opd rfl rfl (LO.assign rfl rfl) ?_
        refine RW.nil ?_
        repeat (refine W.seq ?_)
        refine W.cond rfl (fun hb4 => ?_) (fun hb4 => ?_)
        ·
          try (have hb4p := of_decide_eq_true hb4)
          try (have hb4q := eq_of_beq hb4)
          repeat (refine W.seq ?_)
          refine W.region 30 31 (by decide) rfl rfl ?_
          refine RW.opd rfl rfl (LO.assign rfl rfl) ?_
          refine RW.nil ?_
          repeat (refine W.seq ?_)
          refine W.ret ⟨.inl rfl, _, mt, RVs.cons (RV.tmp rfl) (RVs.nil), all_mt, ?_⟩
          exact ⟨by (simp_all [validN, retOf]) <;> (first | omega | (rw [Bool.eq_iff_iff]; simp only [Bool.and_eq_true, Bool.or_eq_true, decide_eq_true_eq, beq_iff_eq]; omega)), rfl⟩
        ·
          try (have hb4p := of_decide_eq_false hb4)
          try (have hb4q := ne_of_beq_false hb4)
          repeat (refine W.seq ?_)
          refine W.region 35 50 (by decide) rfl rfl ?_
          refine RW.opd rfl rfl (LO.fieldAddr rfl rfl ty52 rfl (by decide)) ?_
          refine RW.opd rfl rfl (LO.load rfl rfl rfl rfl ty3 rfl) ?_
          refine RW.opd rfl rfl (LO.call0 (fr := []) rfl rfl (htg _) fok54 (.cons rfl (.pure rfl) .nil) rfl) ?_
          refine RW.opd rfl rfl (LO.move rfl rfl) ?_
          refine RW.split (t := 27) rfl (fun hb5 => ?_) (fun hb5 => ?_)
          ·
            try (have hb5p := of_decide_eq_true hb5)
            try (have hb5q := eq_of_beq hb5)
            refine RW.gd rfl rfl rfl hb5 rfl (LO.fieldAddr rfl rfl ty52 rfl (by decide)) ?_
            refine RW.gd rfl rfl rfl hb5 rfl (LO.fieldAddr rfl rfl ty24 rfl (by decide)) ?_
            refine RW.gd rfl rfl rfl hb5 rfl (LO.load rfl rfl rfl rfl ty4 rfl) ?_
            refine RW.gd rfl rfl rfl hb5 rfl (LO.not rfl rfl) ?_
            refine RW.gd rfl rfl rfl hb5 rfl (LO.move rfl rfl) ?_
            refine RW.split (t := 32) rfl (fun hb6 => ?_) (fun hb6 => ?_)
            ·
              try (have hb6p := of_decide_eq_true hb6)
              try (have hb6q := eq_of_beq hb6)
              refine RW.sd rfl rfl rfl hb6 rfl ?_
              refine RW.sd rfl rfl rfl hb6 rfl ?_
              refine RW.sd rfl rfl rfl hb6 rfl ?_
              refine RW.gd rfl rfl rfl hb5 rfl (LO.pick_t rfl rfl hb6 rfl) ?_
              refine RW.opd rfl rfl (LO.pick_t rfl rfl hb5 rfl) ?_
              refine RW.opd rfl rfl (LO.assign rfl rfl) ?_
              refine RW.nil ?_
              repeat (refine W.seq ?_)
              refine W.cond_t rfl rfl ?_
              repeat (refine W.seq ?_)
              refine W.skip ?_
              repeat (refine W.seq ?_)
              refine W.cond_t rfl rfl ?_
              repeat (refine W.seq ?_)
              refine W.region 69 70 (by decide) rfl rfl ?_
              refine RW.opd rfl rfl (LO.assign rfl rfl) ?_
              refine RW.nil ?_
              repeat (refine W.seq ?_)
              refine W.ret ⟨.inl rfl, _, mt, RVs.cons (RV.tmp rfl) (RVs.nil), all_mt, ?_⟩
              exact ⟨by (simp_all [validN, retOf]) <;> (first | omega | (rw [Bool.eq_iff_iff]; simp only [Bool.and_eq_true, Bool.or_eq_true, decide_eq_true_eq, beq_iff_eq]; omega)), rfl⟩
            ·
              try (have hb6p := of_decide_eq_false hb6)
              try (have hb6q := ne_of_beq_false hb6)
              refine RW.gd rfl rfl rfl hb6 rfl (LO.fieldAddr rfl rfl ty52 rfl (by decide)) ?_
              refine RW.gd rfl rfl rfl hb6 rfl (LO.load_agg rfl rfl rfl ty24 rfl (Tk.lit rfl)) ?_
              refine RW.gd rfl rfl rfl hb6 rfl (LO.call0 (fr := []) rfl rfl (hgr _) fok55 (.cons rfl (.pure rfl) .nil) rfl) ?_
              refine RW.gd rfl rfl rfl hb5 rfl (LO.pick_f rfl rfl hb6 rfl) ?_
              refine RW.opd rfl rfl (LO.pick_t rfl rfl hb5 rfl) ?_
              refine RW.opd rfl rfl (LO.assign rfl rfl) ?_
              refine RW.nil ?_
              repeat (refine W.seq ?_)
              refine W.cond rfl (fun hb7 => ?_) (fun hb7 => ?_)
              ·
                try (have hb7p := of_decide_eq_true hb7)
                try (have hb7q := eq_of_beq hb7)
                repeat (refine W.seq ?_)
                refine W.skip ?_
                repeat (refine W.seq ?_)
                refine W.cond_t rfl hb7 ?_
                repeat (refine W.seq ?_)
                refine W.region 69 70 (by decide) rfl rfl ?_
                refine RW.opd rfl rfl (LO.assign rfl rfl) ?_
                refine RW.nil ?_
                repeat (refine W.seq ?_)
                refine W.ret ⟨.inl rfl, _, mt, RVs.cons (RV.tmp rfl) (RVs.nil), all_mt, ?_⟩
                exact ⟨by (simp_all [validN, retOf]) <;> (first | omega | (rw [Bool.eq_iff_iff]; simp only [Bool.and_eq_true, Bool.or_eq_true, decide_eq_true_eq, beq_iff_eq]; omega)), rfl⟩
              ·
                try (have hb7p := of_decide_eq_false hb7)
                try (have hb7q := ne_of_beq_false hb7)
                repeat (refine W.seq ?_)
                refine W.region 54 65 (by decide) rfl rfl ?_
                refine RW.opd rfl rfl (LO.fieldAddr rfl rfl ty52 rfl (by decide)) ?_
                refine RW.opd rfl rfl (LO.load rfl rfl rfl rfl ty3 rfl) ?_
                refine RW.opd rfl rfl (LO.call0 (fr := []) rfl rfl (htg _) fok54 (.cons rfl (.pure rfl) .nil) rfl) ?_
                refine RW.opd rfl rfl (LO.not rfl rfl) ?_
                refine RW.opd rfl rfl (LO.move rfl rfl) ?_
                refine RW.split (t := 42) rfl (fun hb8 => ?_) (fun hb8 => ?_)
                ·
                  try (have hb8p := of_decide_eq_true hb8)
                  try (have hb8q := eq_of_beq hb8)
                  refine RW.gd rfl rfl rfl hb8 rfl (LO.fieldAddr rfl rfl ty52 rfl (by decide)) ?_
                  refine RW.gd rfl rfl rfl hb8 rfl (LO.load_agg rfl rfl rfl ty24 rfl (Tk.lit rfl)) ?_
                  refine RW.gd rfl rfl rfl hb8 rfl (LO.build_st rfl ty24 .nil) ?_
                  refine RW.gd rfl rfl rfl hb8 rfl (LO.neq_ad n.tg zAd rfl rfl rfl) ?_
                  refine RW.opd rfl rfl (LO.pick_t rfl rfl hb8 rfl) ?_
                  refine RW.opd rfl rfl (LO.assign rfl rfl) ?_
                  refine RW.nil ?_
                  repeat (refine W.seq ?_)
                  refine W.cond rfl (fun hb9 => ?_) (fun hb9 => ?_)
                  ·
                    try (have hb9p := of_decide_eq_true hb9)
                    try (have hb9q := eq_of_beq hb9)
                    repeat (refine W.seq ?_)
                    refine W.region 69 70 (by decide) rfl rfl ?_
                    refine RW.opd rfl rfl (LO.assign rfl rfl) ?_
                    refine RW.nil ?_
                    repeat (refine W.seq ?_)
                    refine W.ret ⟨.inl rfl, _, mt, RVs.cons (RV.tmp rfl) (RVs.nil), all_mt, ?_⟩
                    exact ⟨by (simp_all [validN, retOf]) <;> (first | omega | (rw [Bool.eq_iff_iff]; simp only [Bool.and_eq_true, Bool.or_eq_true, decide_eq_true_eq, beq_iff_eq]; omega)), rfl⟩
                  ·
                    try (have hb9p := of_decide_eq_false hb9)
                    try (have hb9q := ne_of_beq_false hb9)
                    repeat (refine W.seq ?_)
                    refine W.skip ?_
                    repeat (refine W.seq ?_)
                    refine W.region 74 93 (by decide) rfl rfl ?_
                    refine RW.opd rfl rfl (LO.fieldAddr rfl rfl ty52 rfl (by decide)) ?_
                    refine RW.opd rfl rfl (LO.load rfl rfl rfl rfl ty3 rfl) ?_
                    refine RW.opd rfl rfl (LO.eql rfl rfl rfl) ?_
                    refine RW.opd rfl rfl (LO.move rfl rfl) ?_
                    refine RW.split (t := 51) rfl (fun hb10 => ?_) (fun hb10 => ?_)
                    ·
                      try (have hb10p := of_decide_eq_true hb10)
                      try (have hb10q := eq_of_beq hb10)
                      refine RW.sd rfl rfl rfl hb10 rfl ?_
                      refine RW.sd rfl rfl rfl hb10 rfl ?_
                      refine RW.sd rfl rfl rfl hb10 rfl ?_
                      refine RW.sd rfl rfl rfl hb10 rfl ?_
                      refine RW.ud rfl rfl rfl rfl ?_
                      refine RW.ud rfl rfl rfl rfl ?_
                      refine RW.ud rfl rfl rfl rfl ?_
                      refine RW.sd rfl rfl rfl hb10 rfl ?_
                      refine RW.sd rfl rfl rfl hb10 rfl ?_
                      refine RW.ud rfl rfl rfl rfl ?_
                      refine RW.ud rfl rfl rfl rfl ?_
                      refine RW.ud rfl rfl rfl rfl ?_
                      refine RW.sd rfl rfl rfl hb10 rfl ?_
                      refine RW.opd rfl rfl (LO.pick_t rfl rfl hb10 rfl) ?_
                      refine RW.opd rfl rfl (LO.assign rfl rfl) ?_
                      refine RW.nil ?_
                      repeat (refine W.seq ?_)
                      refine W.ret ⟨.inl rfl, _, mt, RVs.cons (RV.tmp rfl) (RVs.nil), all_mt, ?_⟩
                      exact ⟨by (simp_all [validN, retOf]) <;> (first | omega | (rw [Bool.eq_iff_iff]; simp only [Bool.and_eq_true, Bool.or_eq_true, decide_eq_true_eq, beq_iff_eq]; omega)), rfl⟩
                    ·
                      try (have hb10p := of_decide_eq_false hb10)
                      try (have hb10q := ne_of_beq_false hb10)
                      refine RW.gd rfl rfl rfl hb10 rfl (LO.fieldAddr rfl rfl ty52 rfl (by decide)) ?_
                      refine RW.gd rfl rfl rfl hb10 rfl (LO.load rfl rfl rfl rfl ty3 rfl) ?_
                      refine RW.gd rfl rfl rfl hb10 rfl (LO.eql rfl rfl rfl) ?_
                      refine RW.gd rfl rfl rfl hb10 rfl (LO.move rfl rfl) ?_
                      refine RW.split (t := 55) rfl (fun hb11 => ?_) (fun hb11 => ?_)
                      ·
                        try (have hb11p := of_decide_eq_true hb11)
                        try (have hb11q := eq_of_beq hb11)
                        refine RW.gd rfl rfl rfl hb11 rfl (LO.fieldAddr rfl rfl ty52 rfl (by decide)) ?_
                        refine RW.gd rfl rfl rfl hb11 rfl (LO.load rfl rfl rfl rfl ty3 rfl) ?_
                        refine RW.gd rfl rfl rfl hb11 rfl (LO.gtr rfl rfl rfl) ?_
                        refine RW.gd rfl rfl rfl hb10 rfl (LO.pick_t rfl rfl hb11 rfl) ?_
                        refine RW.gd rfl rfl rfl hb10 rfl (LO.move rfl rfl) ?_
                        refine RW.split (t := 60) rfl (fun hb12 => ?_) (fun hb12 => ?_)
                        ·
                          try (have hb12p := of_decide_eq_true hb12)
                          try (have hb12q := eq_of_beq hb12)
                          refine RW.gd rfl rfl rfl hb12 rfl (LO.fieldAddr rfl rfl ty52 rfl (by decide)) ?_
                          refine RW.gd rfl rfl rfl hb12 rfl (LO.load rfl rfl rfl rfl ty3 rfl) ?_
                          refine RW.gd rfl rfl rfl hb12 rfl (LO.lss rfl rfl rfl) ?_
                          refine RW.gd rfl rfl rfl hb10 rfl (LO.pick_t rfl rfl hb12 rfl) ?_
                          refine RW.opd rfl rfl (LO.pick_f rfl rfl hb10 rfl) ?_
                          refine RW.opd rfl rfl (LO.assign rfl rfl) ?_
                          refine RW.nil ?_
                          repeat (refine W.seq ?_)
                          refine W.ret ⟨.inl rfl, _, mt, RVs.cons (RV.tmp rfl) (RVs.nil), all_mt, ?_⟩
                          exact ⟨by (simp_all [validN, retOf]) <;> (first | omega | (rw [Bool.eq_iff_iff]; simp only [Bool.and_eq_true, Bool.or_eq_true, decide_eq_true_eq, beq_iff_eq]; omega)), rfl⟩
                        ·
                          try (have hb12p := of_decide_eq_false hb12)
                          try (have hb12q := ne_of_beq_false hb12)
                          refine RW.sd rfl rfl rfl hb12 rfl ?_
                          refine RW.sd rfl rfl rfl hb12 rfl ?_
                          refine RW.sd rfl rfl rfl hb12 rfl ?_
                          refine RW.gd rfl rfl rfl hb10 rfl (LO.pick_f rfl rfl hb12 rfl) ?_
                          refine RW.opd rfl rfl (LO.pick_f rfl rfl hb10 rfl) ?_
                          refine RW.opd rfl rfl (LO.assign rfl rfl) ?_
                          refine RW.nil ?_
                          repeat (refine W.seq ?_)
                          refine W.ret ⟨.inl rfl, _, mt, RVs.cons (RV.tmp rfl) (RVs.nil), all_mt, ?_⟩
                          exact ⟨by (simp_all [validN, retOf]) <;> (first | omega | (rw [Bool.eq_iff_iff]; simp only [Bool.and_eq_true, Bool.or_eq_true, decide_eq_true_eq, beq_iff_eq]; omega)), rfl⟩
                      ·
                        try (have hb11p := of_decide_eq_false hb11)
                        try (have hb11q := ne_of_beq_false hb11)
                        refine RW.sd rfl rfl rfl hb11 rfl ?_
                        refine RW.sd rfl rfl rfl hb11 rfl ?_
                        refine RW.sd rfl rfl rfl hb11 rfl ?_
                        refine RW.gd rfl rfl rfl hb10 rfl (LO.pick_f rfl rfl hb11 rfl) ?_
                        refine RW.gd rfl rfl rfl hb10 rfl (LO.move rfl rfl) ?_
                        refine RW.sd rfl rfl rfl rfl rfl ?_
                        refine RW.sd rfl rfl rfl rfl rfl ?_
                        refine RW.sd rfl rfl rfl rfl rfl ?_
                        refine RW.gd rfl rfl rfl hb10 rfl (LO.pick_f rfl rfl rfl rfl) ?_
                        refine RW.opd rfl rfl (LO.pick_f rfl rfl hb10 rfl) ?_
                        refine RW.opd rfl rfl (LO.assign rfl rfl) ?_
                        refine RW.nil ?_
                        repeat (refine W.seq ?_)
                        refine W.ret ⟨.inl rfl, _, mt, RVs.cons (RV.tmp rfl) (RVs.nil), all_mt, ?_⟩
                        exact ⟨by (simp_all [validN, retOf]) <;> (first | omega | (rw [Bool.eq_iff_iff]; simp only [Bool.and_eq_true, Bool.or_eq_true, decide_eq_true_eq, beq_iff_eq]; omega)), rfl⟩
                ·
                  try (have hb8p := of_decide_eq_false hb8)
                  try (have hb8q := ne_of_beq_false hb8)
                  refine RW.sd rfl rfl rfl hb8 rfl ?_
                  refine RW.sd rfl rfl rfl hb8 rfl ?_
                  refine RW.sd rfl rfl rfl hb8 rfl ?_
                  refine RW.sd rfl rfl rfl hb8 rfl ?_
                  refine RW.opd rfl rfl (LO.pick_f rfl rfl hb8 rfl) ?_
                  refine RW.opd rfl rfl (LO.assign rfl rfl) ?_
                  refine RW.nil ?_
                  repeat (refine W.seq ?_)
                  refine W.cond_f rfl rfl ?_
                  repeat (refine W.seq ?_)
                  refine W.skip ?_
                  repeat (refine W.seq ?_)
                  refine W.region 74 93 (by decide) rfl rfl ?_
                  refine RW.opd rfl rfl (LO.fieldAddr rfl rfl ty52 rfl (by decide)) ?_
                  refine RW.opd rfl rfl (LO.load rfl rfl rfl rfl ty3 rfl) ?_
                  refine RW.opd rfl rfl (LO.eql rfl rfl rfl) ?_
                  refine RW.opd rfl rfl (LO.move rfl rfl) ?_
                  refine RW.split (t := 51) rfl (fun hb13 => ?_) (fun hb13 => ?_)
                  ·
                    try (have hb13p := of_decide_eq_true hb13)
                    try (have hb13q := eq_of_beq hb13)
                    refine RW.sd rfl rfl rfl hb13 rfl ?_
                    refine RW.sd rfl rfl rfl hb13 rfl ?_
                    refine RW.sd rfl rfl rfl hb13 rfl ?_
                    refine RW.sd rfl rfl rfl hb13 rfl ?_
                    refine RW.ud rfl rfl rfl rfl ?_
                    refine RW.ud rfl rfl rfl rfl ?_
                    refine RW.ud rfl rfl rfl rfl ?_
                    refine RW.sd rfl rfl rfl hb13 rfl ?_
                    refine RW.sd rfl rfl rfl hb13 rfl ?_
                    refine RW.ud rfl rfl rfl rfl ?_
                    refine RW.ud rfl rfl rfl rfl ?_
                    refine RW.ud rfl rfl rfl rfl ?_
                    refine RW.sd rfl rfl rfl hb13 rfl ?_
                    refine RW.opd rfl rfl (LO.pick_t rfl rfl hb13 rfl) ?_
                    refine RW.opd rfl rfl (LO.assign rfl rfl) ?_
                    refine RW.nil ?_
                    repeat (refine W.seq ?_)
                    refine W.ret ⟨.inl rfl, _, mt, RVs.cons (RV.tmp rfl) (RVs.nil), all_mt, ?_⟩
                    exact ⟨by (simp_all [validN, retOf]) <;> (first | omega | (rw [Bool.eq_iff_iff]; simp only [Bool.and_eq_true, Bool.or_eq_true, decide_eq_true_eq, beq_iff_eq]; omega)), rfl⟩
                  ·
                    try (have hb13p := of_decide_eq_false hb13)
                    try (have hb13q := ne_of_beq_false hb13)
                    refine RW.gd rfl rfl rfl hb13 rfl (LO.fieldAddr rfl rfl ty52 rfl (by decide)) ?_
                    refine RW.gd rfl rfl rfl hb13 rfl (LO.load rfl rfl rfl rfl ty3 rfl) ?_
                    refine RW.gd rfl rfl rfl hb13 rfl (LO.eql rfl rfl rfl) ?_
                    refine RW.gd rfl rfl rfl hb13 rfl (LO.move rfl rfl) ?_
                    refine RW.split (t := 55) rfl (fun hb14 => ?_) (fun hb14 => ?_)
                    ·
                      try (have hb14p := of_decide_eq_true hb14)
                      try (have hb14q := eq_of_beq hb14)
                      refine RW.gd rfl rfl rfl hb14 rfl (LO.fieldAddr rfl rfl ty52 rfl (by decide)) ?_
                      refine RW.gd rfl rfl rfl hb14 rfl (LO.load rfl rfl rfl rfl ty3 rfl) ?_
                      refine RW.gd rfl rfl rfl hb14 rfl (LO.gtr rfl rfl rfl) ?_
                      refine RW.gd rfl rfl rfl hb13 rfl (LO.pick_t rfl rfl hb14 rfl) ?_
                      refine RW.gd rfl rfl rfl hb13 rfl (LO.move rfl rfl) ?_
                      refine RW.split (t := 60) rfl (fun hb15 => ?_) (fun hb15 => ?_)
                      ·
                        try (have hb15p := of_decide_eq_true hb15)
                        try (have hb15q := eq_of_beq hb15)
                        refine RW.gd rfl rfl rfl hb15 rfl (LO.fieldAddr rfl rfl ty52 rfl (by decide)) ?_
                        refine RW.gd rfl rfl rfl hb15 rfl (LO.load rfl rfl rfl rfl ty3 rfl) ?_
                        refine RW.gd rfl rfl rfl hb15 rfl (LO.lss rfl rfl rfl) ?_
                        refine RW.gd rfl rfl rfl hb13 rfl (LO.pick_t rfl rfl hb15 rfl) ?_
                        refine RW.opd rfl rfl (LO.pick_f rfl rfl hb13 rfl) ?_
                        refine RW.opd rfl rfl (LO.assign rfl rfl) ?_
                        refine RW.nil ?_
                        repeat (refine W.seq ?_)
                        refine W.ret ⟨.inl rfl, _, mt, RVs.cons (RV.tmp rfl) (RVs.nil), all_mt, ?_⟩
                        exact ⟨by (simp_all [validN, retOf]) <;> (first | omega | (rw [Bool.eq_iff_iff]; simp only [Bool.and_eq_true, Bool.or_eq_true, decide_eq_true_eq, beq_iff_eq]; omega)), rfl⟩
                      ·
                        try (have hb15p := of_decide_eq_false hb15)
                        try (have hb15q := ne_of_beq_false hb15)
                        refine RW.sd rfl rfl rfl hb15 rfl ?_
                        refine RW.sd rfl rfl rfl hb15 rfl ?_
                        refine RW.sd rfl rfl rfl hb15 rfl ?_
                        refine RW.gd rfl rfl rfl hb13 rfl (LO.pick_f rfl rfl hb15 rfl) ?_
                        refine RW.opd rfl rfl (LO.pick_f rfl rfl hb13 rfl) ?_
                        refine RW.opd rfl rfl (LO.assign rfl rfl) ?_
                        refine RW.nil ?_
                        repeat (refine W.seq ?_)
                        refine W.ret ⟨.inl rfl, _, mt, RVs.cons (RV.tmp rfl) (RVs.nil), all_mt, ?_⟩
                        exact ⟨by (simp_all [validN, retOf]) <;> (first | omega | (rw [Bool.eq_iff_iff]; simp only [Bool.and_eq_true, Bool.or_eq_true, decide_eq_true_eq, beq_iff_eq]; omega)), rfl⟩
                    ·
                      try (have hb14p := of_decide_eq_false hb14)
                      try (have hb14q := ne_of_beq_false hb14)
                      refine RW.sd rfl rfl rfl hb14 rfl ?_
                      refine RW.sd rfl rfl rfl hb14 rfl ?_
                      refine RW.sd rfl rfl rfl hb14 rfl ?_
                      refine RW.gd rfl rfl rfl hb13 rfl (LO.pick_f rfl rfl hb14 rfl) ?_
                      refine RW.gd rfl rfl rfl hb13 rfl (LO.move rfl rfl) ?_
                      refine RW.sd rfl rfl rfl rfl rfl ?_
                      refine RW.sd rfl rfl rfl rfl rfl ?_
                      refine RW.sd rfl rfl rfl rfl rfl ?_
                      refine RW.gd rfl rfl rfl hb13 rfl (LO.pick_f rfl rfl rfl rfl) ?_
                      refine RW.opd rfl rfl (LO.pick_f rfl rfl hb13 rfl) ?_
                      refine RW.opd rfl rfl (LO.assign rfl rfl) ?_
                      refine RW.nil ?_
                      repeat (refine W.seq ?_)
                      refine W.ret ⟨.inl rfl, _, mt, RVs.cons (RV.tmp rfl) (RVs.nil), all_mt, ?_⟩
                      exact ⟨by (simp_all [validN, retOf]) <;> (first | omega | (rw [Bool.eq_iff_iff]; simp only [Bool.and_eq_true, Bool.or_eq_true, decide_eq_true_eq, beq_iff_eq]; omega)), rfl⟩
          ·
            try (have hb5p := of_decide_eq_false hb5)
            try (have hb5q := ne_of_beq_false hb5)
            refine RW.sd rfl rfl rfl hb5 rfl ?_
            refine RW.sd rfl rfl rfl hb5 rfl ?_
            refine RW.sd rfl rfl rfl hb5 rfl ?_
            refine RW.sd rfl rfl rfl hb5 rfl ?_
            refine RW.sd rfl rfl rfl hb5 rfl ?_
            refine RW.ud rfl rfl rfl rfl ?_
            refine RW.ud rfl rfl rfl rfl ?_
            refine RW.ud rfl rfl rfl rfl ?_
            refine RW.sd rfl rfl rfl hb5 rfl ?_
            refine RW.opd rfl rfl (LO.pick_f rfl rfl hb5 rfl) ?_
            refine RW.opd rfl rfl (LO.assign rfl rfl) ?_
            refine RW.nil ?_
            repeat (refine W.seq ?_)
            refine W.cond_f rfl rfl ?_
            repeat (refine W.seq ?_)
            refine W.region 54 65 (by decide) rfl rfl ?_
            refine RW.opd rfl rfl (LO.fieldAddr rfl rfl ty52 rfl (by decide)) ?_
            refine RW.opd rfl rfl (LO.load rfl rfl rfl rfl ty3 rfl) ?_
            refine RW.opd rfl rfl (LO.call0 (fr := []) rfl rfl (htg _) fok54 (.cons rfl (.pure rfl) .nil) rfl) ?_
            refine RW.opd rfl rfl (LO.not rfl rfl) ?_
            refine RW.opd rfl rfl (LO.move rfl rfl) ?_
            refine RW.split (t := 42) rfl (fun hb16 => ?_) (fun hb16 => ?_)
            ·
              try (have hb16p := of_decide_eq_true hb16)
              try (have hb16q := eq_of_beq hb16)
              refine RW.gd rfl rfl rfl hb16 rfl (LO.fieldAddr rfl rfl ty52 rfl (by decide)) ?_
              refine RW.gd rfl rfl rfl hb16 rfl (LO.load_agg rfl rfl rfl ty24 rfl (Tk.lit rfl)) ?_
              refine RW.gd rfl rfl rfl hb16 rfl (LO.build_st rfl ty24 .nil) ?_
              refine RW.gd rfl rfl rfl hb16 rfl (LO.neq_ad n.tg zAd rfl rfl rfl) ?_
              refine RW.opd rfl rfl (LO.pick_t rfl rfl hb16 rfl) ?_
              refine RW.opd rfl rfl (LO.assign rfl rfl) ?_
              refine RW.nil ?_
              repeat (refine W.seq ?_)
              refine W.cond rfl (fun hb17 => ?_) (fun hb17 => ?_)
              ·
                try (have hb17p := of_decide_eq_true hb17)
                try (have hb17q := eq_of_beq hb17)
                repeat (refine W.seq ?_)
                refine W.region 69 70 (by decide) rfl rfl ?_
                refine RW.opd rfl rfl (LO.assign rfl rfl) ?_
                refine RW.nil ?_
                repeat (refine W.seq ?_)
                refine W.ret ⟨.inl rfl, _, mt, RVs.cons (RV.tmp rfl) (RVs.nil), all_mt, ?_⟩
                exact ⟨by (simp_all [validN, retOf]) <;> (first | omega | (rw [Bool.eq_iff_iff]; simp only [Bool.and_eq_true, Bool.or_eq_true, decide_eq_true_eq, beq_iff_eq]; omega)), rfl⟩
              ·
                try (have hb17p := of_decide_eq_false hb17)
                try (have hb17q := ne_of_beq_false hb17)
                repeat (refine W.seq ?_)
                refine W.skip ?_
                repeat (refine W.seq ?_)
                refine W.region 74 93 (by decide) rfl rfl ?_
                refine RW.opd rfl rfl (LO.fieldAddr rfl rfl ty52 rfl (by decide)) ?_
                refine RW.opd rfl rfl (LO.load rfl rfl rfl rfl ty3 rfl) ?_
                refine RW.opd rfl rfl (LO.eql rfl rfl rfl) ?_
                refine RW.opd rfl rfl (LO.move rfl rfl) ?_
                refine RW.split (t := 51) rfl (fun hb18 => ?_) (fun hb18 => ?_)
                ·
                  try (have hb18p := of_decide_eq_true hb18)
                  try (have hb18q := eq_of_beq hb18)
                  refine RW.sd rfl rfl rfl hb18 rfl ?_
                  refine RW.sd rfl rfl rfl hb18 rfl ?_
                  refine RW.sd rfl rfl rfl hb18 rfl ?_
                  refine RW.sd rfl rfl rfl hb18 rfl ?_
                  refine RW.ud rfl rfl rfl rfl ?_
                  refine RW.ud rfl rfl rfl rfl ?_
                  refine RW.ud rfl rfl rfl rfl ?_
                  refine RW.sd rfl rfl rfl hb18 rfl ?_
                  refine RW.sd rfl rfl rfl hb18 rfl ?_
                  refine RW.ud rfl rfl rfl rfl ?_
                  refine RW.ud rfl rfl rfl rfl ?_
                  refine RW.ud rfl rfl rfl rfl ?_
                  refine RW.sd rfl rfl rfl hb18 rfl ?_
                  refine RW.opd rfl rfl (LO.pick_t rfl rfl hb18 rfl) ?_
                  refine RW.opd rfl rfl (LO.assign rfl rfl) ?_
                  refine RW.nil ?_
                  repeat (refine W.seq ?_)
                  refine W.ret ⟨.inl rfl, _, mt, RVs.cons (RV.tmp rfl) (RVs.nil), all_mt, ?_⟩
                  exact ⟨by (simp_all [validN, retOf]) <;> (first | omega | (rw [Bool.eq_iff_iff]; simp only [Bool.and_eq_true, Bool.or_eq_true, decide_eq_true_eq, beq_iff_eq]; omega)), rfl⟩
                ·
                  try (have hb18p := of_decide_eq_false hb18)
                  try (have hb18q := ne_of_beq_false hb18)
                  refine RW.gd rfl rfl rfl hb18 rfl (LO.fieldAddr rfl rfl ty52 rfl (by decide)) ?_
                  refine RW.gd rfl rfl rfl hb18 rfl (LO.load rfl rfl rfl rfl ty3 rfl) ?_
                  refine RW.gd rfl rfl rfl hb18 rfl (LO.eql rfl rfl rfl) ?_
                  refine RW.gd rfl rfl rfl hb18 rfl (LO.move rfl rfl) ?_
                  refine RW.split (t := 55) rfl (fun hb19 => ?_) (fun hb19 => ?_)
                  ·
                    try (have hb19p := of_decide_eq_true hb19)
                    try (have hb19q := eq_of_beq hb19)
                    refine RW.gd rfl rfl rfl hb19 rfl (LO.fieldAddr rfl rfl ty52 rfl (by decide)) ?_
                    refine RW.gd rfl rfl rfl hb19 rfl (LO.load rfl rfl rfl rfl ty3 rfl) ?_
                    refine RW.gd rfl rfl rfl hb19 rfl (LO.gtr rfl rfl rfl) ?_
                    refine RW.gd rfl rfl rfl hb18 rfl (LO.pick_t rfl rfl hb19 rfl) ?_
                    refine RW.gd rfl rfl rfl hb18 rfl (LO.move rfl rfl) ?_
                    refine RW.split (t := 60) rfl (fun hb20 => ?_) (fun hb20 => ?_)
                    ·
                      try (have hb20p := of_decide_eq_true hb20)
                      try (have hb20q := eq_of_beq hb20)
                      refine RW.gd rfl rfl rfl hb20 rfl (LO.fieldAddr rfl rfl ty52 rfl (by decide)) ?_
                      refine RW.gd rfl rfl rfl hb20 rfl (LO.load rfl rfl rfl rfl ty3 rfl) ?_
                      refine RW.gd rfl rfl rfl hb20 rfl (LO.lss rfl rfl rfl) ?_
                      refine RW.gd rfl rfl rfl hb18 rfl (LO.pick_t rfl rfl hb20 rfl) ?_
                      refine RW.opd rfl rfl (LO.pick_f rfl rfl hb18 rfl) ?_
                      refine RW.opd rfl rfl (LO.assign rfl rfl) ?_
                      refine RW.nil ?_
                      repeat (refine W.seq ?_)
                      refine W.ret ⟨.inl rfl, _, mt, RVs.cons (RV.tmp rfl) (RVs.nil), all_mt, ?_⟩
                      exact ⟨by (simp_all [validN, retOf]) <;> (first | omega | (rw [Bool.eq_iff_iff]; simp only [Bool.and_eq_true, Bool.or_eq_true, decide_eq_true_eq, beq_iff_eq]; omega)), rfl⟩
                    ·
                      try (have hb20p := of_decide_eq_false hb20)
                      try (have hb20q := ne_of_beq_false hb20)
                      refine RW.sd rfl rfl rfl hb20 rfl ?_
                      refine RW.sd rfl rfl rfl hb20 rfl ?_
                      refine RW.sd rfl rfl rfl hb20 rfl ?_
                      refine RW.gd rfl rfl rfl hb18 rfl (LO.pick_f rfl rfl hb20 rfl) ?_
                      refine RW.opd rfl rfl (LO.pick_f rfl rfl hb18 rfl) ?_
                      refine RW.opd rfl rfl (LO.assign rfl rfl) ?_
                      refine RW.nil ?_
                      repeat (refine W.seq ?_)
                      refine W.ret ⟨.inl rfl, _, mt, RVs.cons (RV.tmp rfl) (RVs.nil), all_mt, ?_⟩
                      exact ⟨by (simp_all [validN, retOf]) <;> (first | omega | (rw [Bool.eq_iff_iff]; simp only [Bool.and_eq_true, Bool.or_eq_true, decide_eq_true_eq, beq_iff_eq]; omega)), rfl⟩
                  ·
                    try (have hb19p := of_decide_eq_false hb19)
                    try (have hb19q := ne_of_beq_false hb19)
                    refine RW.sd rfl rfl rfl hb19 rfl ?_
                    refine RW.sd rfl rfl rfl hb19 rfl ?_
                    refine RW.sd rfl rfl rfl hb19 rfl ?_
                    refine RW.gd rfl rfl rfl hb18 rfl (LO.pick_f rfl rfl hb19 rfl) ?_
                    refine RW.gd rfl rfl rfl hb18 rfl (LO.move rfl rfl) ?_
                    refine RW.sd rfl rfl rfl rfl rfl ?_
                    refine RW.sd rfl rfl rfl rfl rfl ?_
                    refine RW.sd rfl rfl rfl rfl rfl ?_
                    refine RW.gd rfl rfl rfl hb18 rfl (LO.pick_f rfl rfl rfl rfl) ?_
                    refine RW.opd rfl rfl (LO.pick_f rfl rfl hb18 rfl) ?_
                    refine RW.opd rfl rfl (LO.assign rfl rfl) ?_
                    refine RW.nil ?_
                    repeat (refine W.seq ?_)
                    refine W.ret ⟨.inl rfl, _, mt, RVs.cons (RV.tmp rfl) (RVs.nil), all_mt, ?_⟩
                    exact ⟨by (simp_all [validN, retOf]) <;> (first | omega | (rw [Bool.eq_iff_iff]; simp only [Bool.and_eq_true, Bool.or_eq_true, decide_eq_true_eq, beq_iff_eq]; omega)), rfl⟩
            ·
              try (have hb16p := of_decide_eq_false hb16)
              try (have hb16q := ne_of_beq_false hb16)
              refine RW.sd rfl rfl rfl hb16 rfl ?_
              refine RW.sd rfl rfl rfl hb16 rfl ?_
              refine RW.sd rfl rfl rfl hb16 rfl ?_
              refine RW.sd rfl rfl rfl hb16 rfl ?_
              refine RW.opd rfl rfl (LO.pick_f rfl rfl hb16 rfl) ?_
              refine RW.opd rfl rfl (LO.assign rfl rfl) ?_
              refine RW.nil ?_
              repeat (refine W.seq ?_)
              refine W.cond_f rfl rfl ?_
              repeat (refine W.seq ?_)
              refine W.skip ?_
              repeat (refine W.seq ?_)
              refine W.region 74 93 (by decide) rfl rfl ?_
              refine RW.opd rfl rfl (LO.fieldAddr rfl rfl ty52 rfl (by decide)) ?_
              refine RW.opd rfl rfl (LO.load rfl rfl rfl rfl ty3 rfl) ?_
              refine RW.opd rfl rfl (LO.eql rfl rfl rfl) ?_
              refine RW.opd rfl rfl (LO.move rfl rfl) ?_
              refine RW.split (t := 51) rfl (fun hb21 => ?_) (fun hb21 => ?_)
              ·
                try (have hb21p := of_decide_eq_true hb21)
                try (have hb21q := eq_of_beq hb21)
                refine RW.sd rfl rfl rfl hb21 rfl ?_
                refine RW.sd rfl rfl rfl hb21 rfl ?_
                refine RW.sd rfl rfl rfl hb21 rfl ?_
                refine RW.sd rfl rfl rfl hb21 rfl ?_
                refine RW.ud rfl rfl rfl rfl ?_
                refine RW.ud rfl rfl rfl rfl ?_
                refine RW.ud rfl rfl rfl rfl ?_
                refine RW.sd rfl rfl rfl hb21 rfl ?_
                refine RW.sd rfl rfl rfl hb21 rfl ?_
                refine RW.ud rfl rfl rfl rfl ?_
                refine RW.ud rfl rfl rfl rfl ?_
                refine RW.ud rfl rfl rfl rfl ?_
                refine RW.sd rfl rfl rfl hb21 rfl ?_
                refine RW.opd rfl rfl (LO.pick_t rfl rfl hb21 rfl) ?_
                refine RW.opd rfl rfl (LO.assign rfl rfl) ?_
                refine RW.nil ?_
                repeat (refine W.seq ?_)
                refine W.ret ⟨.inl rfl, _, mt, RVs.cons (RV.tmp rfl) (RVs.nil), all_mt, ?_⟩
                exact ⟨by (simp_all [validN, retOf]) <;> (first | omega | (rw [Bool.eq_iff_iff]; simp only [Bool.and_eq_true, Bool.or_eq_true, decide_eq_true_eq, beq_iff_eq]; omega)), rfl⟩
              ·
                try (have hb21p := of_decide_eq_false hb21)
                try (have hb21q := ne_of_beq_false hb21)
                refine RW.gd rfl rfl rfl hb21 rfl (LO.fieldAddr rfl rfl ty52 rfl (by decide)) ?_
                refine RW.gd rfl rfl rfl hb21 rfl (LO.load rfl rfl rfl rfl ty3 rfl) ?_
                refine RW.gd rfl rfl rfl hb21 rfl (LO.eql rfl rfl rfl) ?_
                refine RW.gd rfl rfl rfl hb21 rfl (LO.move rfl rfl) ?_
                refine RW.split (t := 55) rfl (fun hb22 => ?_) (fun hb22 => ?_)
                ·
                  try (have hb22p := of_decide_eq_true hb22)
                  try (have hb22q := eq_of_beq hb22)
                  refine RW.gd rfl rfl rfl hb22 rfl (LO.fieldAddr rfl rfl ty52 rfl (by decide)) ?_
                  refine RW.gd rfl rfl rfl hb22 rfl (LO.load rfl rfl rfl rfl ty3 rfl) ?_
                  refine RW.gd rfl rfl rfl hb22 rfl (LO.gtr rfl rfl rfl) ?_
                  refine RW.gd rfl rfl rfl hb21 rfl (LO.pick_t rfl rfl hb22 rfl) ?_
                  refine RW.gd rfl rfl rfl hb21 rfl (LO.move rfl rfl) ?_
                  refine RW.split (t := 60) rfl (fun hb23 => ?_) (fun hb23 => ?_)
                  ·
                    try (have hb23p := of_decide_eq_true hb23)
                    try (have hb23q := eq_of_beq hb23)
                    refine RW.gd rfl rfl rfl hb23 rfl (LO.fieldAddr rfl rfl ty52 rfl (by decide)) ?_
                    refine RW.gd rfl rfl rfl hb23 rfl (LO.load rfl rfl rfl rfl ty3 rfl) ?_
                    refine RW.gd rfl rfl rfl hb23 rfl (LO.lss rfl rfl rfl) ?_
                    refine RW.gd rfl rfl rfl hb21 rfl (LO.pick_t rfl rfl hb23 rfl) ?_
                    refine RW.opd rfl rfl (LO.pick_f rfl rfl hb21 rfl) ?_
                    refine RW.opd rfl rfl (LO.assign rfl rfl) ?_
                    refine RW.nil ?_
                    repeat (refine W.seq ?_)
                    refine W.ret ⟨.inl rfl, _, mt, RVs.cons (RV.tmp rfl) (RVs.nil), all_mt, ?_⟩
                    exact ⟨by (simp_all [validN, retOf]) <;> (first | omega | (rw [Bool.eq_iff_iff]; simp only [Bool.and_eq_true, Bool.or_eq_true, decide_eq_true_eq, beq_iff_eq]; omega)), rfl⟩
                  ·
                    try (have hb23p := of_decide_eq_false hb23)
                    try (have hb23q := ne_of_beq_false hb23)
                    refine RW.sd rfl rfl rfl hb23 rfl ?_
                    refine RW.sd rfl rfl rfl hb23 rfl ?_
                    refine RW.sd rfl rfl rfl hb23 rfl ?_
                    refine RW.gd rfl rfl rfl hb21 rfl (LO.pick_f rfl rfl hb23 rfl) ?_
                    refine RW.opd rfl rfl (LO.pick_f rfl rfl hb21 rfl) ?_
                    refine RW.opd rfl rfl (LO.assign rfl rfl) ?_
                    refine RW.nil ?_
                    repeat (refine W.seq ?_)
                    refine W.ret ⟨.inl rfl, _, mt, RVs.cons (RV.tmp rfl) (RVs.nil), all_mt, ?_⟩
                    exact ⟨by (simp_all [validN, retOf]) <;> (first | omega | (rw [Bool.eq_iff_iff]; simp only [Bool.and_eq_true, Bool.or_eq_true, decide_eq_true_eq, beq_iff_eq]; omega)), rfl⟩
                ·
                  try (have hb22p := of_decide_eq_false hb22)
                  try (have hb22q := ne_of_beq_false hb22)
                  refine RW.sd rfl rfl rfl hb22 rfl ?_
                  refine RW.sd rfl rfl rfl hb22 rfl ?_
                  refine RW.sd rfl rfl rfl hb22 rfl ?_
                  refine RW.gd rfl rfl rfl hb21 rfl (LO.pick_f rfl rfl hb22 rfl) ?_
                  refine RW.gd rfl rfl rfl hb21 rfl (LO.move rfl rfl) ?_
                  refine RW.sd rfl rfl rfl rfl rfl ?_
                  refine RW.sd rfl rfl rfl rfl rfl ?_
                  refine RW.sd rfl rfl rfl rfl rfl ?_
                  refine RW.gd rfl rfl rfl hb21 rfl (LO.pick_f rfl rfl rfl rfl) ?_
                  refine RW.opd rfl rfl (LO.pick_f rfl rfl hb21 rfl) ?_
                  refine RW.opd rfl rfl (LO.assign rfl rfl) ?_
                  refine RW.nil ?_
                  repeat (refine W.seq ?_)
                  refine W.ret ⟨.inl rfl, _, mt, RVs.cons (RV.tmp rfl) (RVs.nil), all_mt, ?_⟩
                  exact ⟨by (simp_all [validN, retOf]) <;> (first | omega | (rw [Bool.eq_iff_iff]; simp only [Bool.and_eq_true, Bool.or_eq_true, decide_eq_true_eq, beq_iff_eq]; omega)), rfl⟩
      ·
        try (have hb3p := of_decide_eq_false hb3)
        try (have hb3q := ne_of_beq_false hb3)
        refine RW.sd rfl rfl rfl hb3 rfl ?_
        refine RW.sd rfl rfl rfl hb3 rfl ?_
        refine RW.sd rfl rfl rfl hb3 rfl ?_
        refine RW.sd rfl rfl rfl hb3 rfl ?_
        refine RW.gd rfl rfl rfl hb2 rfl (LO.pick_f rfl rfl hb3 rfl) ?_
        refine RW.opd rfl rfl (LO.pick_f rfl rfl hb2 rfl) ?_
        refine RW.opd rfl rfl (LO.assign rfl rfl) ?_
        refine RW.nil ?_
        repeat (refine W.seq ?_)
        refine W.cond_f rfl rfl ?_
        repeat (refine W.seq ?_)
        refine W.region 35 50 (by decide) rfl rfl ?_
        refine RW.opd rfl rfl (LO.fieldAddr rfl rfl ty52 rfl (by decide)) ?_
        refine RW.opd rfl rfl (LO.load rfl rfl rfl rfl ty3 rfl) ?_
        refine RW.opd rfl rfl (LO.call0 (fr := []) rfl rfl (htg _) fok54 (.cons rfl (.pure rfl) .nil) rfl) ?_
        refine RW.opd rfl rfl (LO.move rfl rfl) ?_
        refine RW.split (t := 27) rfl (fun hb24 => ?_) (fun hb24 => ?_)
        ·
          try (have hb24p := of_decide_eq_true hb24)
          try (have hb24q := eq_of_beq hb24)
          refine RW.gd rfl rfl rfl hb24 rfl (LO.fieldAddr rfl rfl ty52 rfl (by decide)) ?_
          refine RW.gd rfl rfl rfl hb24 rfl (LO.fieldAddr rfl rfl ty24 rfl (by decide)) ?_
          refine RW.gd rfl rfl rfl hb24 rfl (LO.load rfl rfl rfl rfl ty4 rfl) ?_
          refine RW.gd rfl rfl rfl hb24 rfl (LO.not rfl rfl) ?_
          refine RW.gd rfl rfl rfl hb24 rfl (LO.move rfl rfl) ?_
          refine RW.split (t := 32) rfl (fun hb25 => ?_) (fun hb25 => ?_)
          ·
            try (have hb25p := of_decide_eq_true hb25)
            try (have hb25q := eq_of_beq hb25)
            refine RW.sd rfl rfl rfl hb25 rfl ?_
            refine RW.sd rfl rfl rfl hb25 rfl ?_
            refine RW.sd rfl rfl rfl hb25 rfl ?_
            refine RW.gd rfl rfl rfl hb24 rfl (LO.pick_t rfl rfl hb25 rfl) ?_
            refine RW.opd rfl rfl (LO.pick_t rfl rfl hb24 rfl) ?_
            refine RW.opd rfl rfl (LO.assign rfl rfl) ?_
            refine RW.nil ?_
            repeat (refine W.seq ?_)
            refine W.cond_t rfl rfl ?_
            repeat (refine W.seq ?_)
            refine W.skip ?_
            repeat (refine W.seq ?_)
            refine W.cond_t rfl rfl ?_
            repeat (refine W.seq ?_)
            refine W.region 69 70 (by decide) rfl rfl ?_
            refine RW.opd rfl rfl (LO.assign rfl rfl) ?_
            refine RW.nil ?_
            repeat (refine W.seq ?_)
            refine W.ret ⟨.inl rfl, _, mt, RVs.cons (RV.tmp rfl) (RVs.nil), all_mt, ?_⟩
            exact ⟨by (simp_all [validN, retOf]) <;> (first | omega | (rw [Bool.eq_iff_iff]; simp only [Bool.and_eq_true, Bool.or_eq_true, decide_eq_true_eq, beq_iff_eq]; omega)), rfl⟩
          ·
            try (have hb25p := of_decide_eq_false hb25)
            try (have hb25q := ne_of_beq_false hb25)
            refine RW.gd rfl rfl rfl hb25 rfl (LO.fieldAddr rfl rfl ty52 rfl (by decide)) ?_
            refine RW.gd rfl rfl rfl hb25 rfl (LO.load_agg rfl rfl rfl ty24 rfl (Tk.lit rfl)) ?_
            refine RW.gd rfl rfl rfl hb25 rfl (LO.call0 (fr := []) rfl rfl (hgr _) fok55 (.cons rfl (.pure rfl) .nil) rfl) ?_
            refine RW.gd rfl rfl rfl hb24 rfl (LO.pick_f rfl rfl hb25 rfl) ?_
            refine RW.opd rfl rfl (LO.pick_t rfl rfl hb24 rfl) ?_
            refine RW.opd rfl rfl (LO.assign rfl rfl) ?_
            refine RW.nil ?_
            repeat (refine W.seq ?_)
            refine W.cond rfl (fun hb26 => ?_) (fun hb26 => ?_)
            ·
              try (have hb26p := of_decide_eq_true hb26)
              try (have hb26q := eq_of_beq hb26)
              repeat (refine W.seq ?_)
              refine W.skip ?_
              repeat (refine W.seq ?_)
              refine W.cond_t rfl hb26 ?_
              repeat (refine W.seq ?_)
              refine W.region 69 70 (by decide) rfl rfl ?_
              refine RW.opd rfl rfl (LO.assign rfl rfl) ?_
              refine RW.nil ?_
              repeat (refine W.seq ?_)
              refine W.ret ⟨.inl rfl, _, mt, RVs.cons (RV.tmp rfl) (RVs.nil), all_mt, ?_⟩
              exact ⟨by (simp_all [validN, retOf]) <;> (first | omega | (rw [Bool.eq_iff_iff]; simp only [Bool.and_eq_true, Bool.or_eq_true, decide_eq_true_eq, beq_iff_eq]; omega)), rfl⟩
            ·
              try (have hb26p := of_decide_eq_false hb26)
              try (have hb26q := ne_of_beq_false hb26)
              repeat (refine W.seq ?_)
              refine W.region 54 65 (by decide) rfl rfl ?_
              refine RW.opd rfl rfl (LO.fieldAddr rfl rfl ty52 rfl (by decide)) ?_
              refine RW.opd rfl rfl (LO.load rfl rfl rfl rfl ty3 rfl) ?_
              refine RW.opd rfl rfl (LO.call0 (fr := []) rfl rfl (htg _) fok54 (.cons rfl (.pure rfl) .nil) rfl) ?_
              refine RW.opd rfl rfl (LO.not rfl rfl) ?_
              refine RW.opd rfl rfl (LO.move rfl rfl) ?_
              refine RW.split (t := 42) rfl (fun hb27 => ?_) (fun hb27 => ?_)
              ·
                try (have hb27p := of_decide_eq_true hb27)
                try (have hb27q := eq_of_beq hb27)
                refine RW.gd rfl rfl rfl hb27 rfl (LO.fieldAddr rfl rfl ty52 rfl (by decide)) ?_
                refine RW.gd rfl rfl rfl hb27 rfl (LO.load_agg rfl rfl rfl ty24 rfl (Tk.lit rfl)) ?_
                refine RW.gd rfl rfl rfl hb27 rfl (LO.build_st rfl ty24 .nil) ?_
                refine RW.gd rfl rfl rfl hb27 rfl (LO.neq_ad n.tg zAd rfl rfl rfl) ?_
                refine RW.opd rfl rfl (LO.pick_t rfl rfl hb27 rfl) ?_
                refine RW.opd rfl rfl (LO.assign rfl rfl) ?_
                refine RW.nil ?_
                repeat (refine W.seq ?_)
                refine W.cond rfl (fun hb28 => ?_) (fun hb28 => ?_)
                ·
                  try (have hb28p := of_decide_eq_true hb28)
                  try (have hb28q := eq_of_beq hb28)
                  repeat (refine W.seq ?_)
                  refine W.region 69 70 (by decide) rfl rfl ?_
                  refine RW.opd rfl rfl (LO.assign rfl rfl) ?_
                  refine RW.nil ?_
                  repeat (refine W.seq ?_)
                  refine W.ret ⟨.inl rfl, _, mt, RVs.cons (RV.tmp rfl) (RVs.nil), all_mt, ?_⟩
                  exact ⟨by (simp_all [validN, retOf]) <;> (first | omega | (rw [Bool.eq_iff_iff]; simp only [Bool.and_eq_true, Bool.or_eq_true, decide_eq_true_eq, beq_iff_eq]; omega)), rfl⟩
                ·
                  try (have hb28p := of_decide_eq_false hb28)
                  try (have hb28q := ne_of_beq_false hb28)
                  repeat (refine W.seq ?_)
                  refine W.skip ?_
                  repeat (refine W.seq ?_)
                  refine W.region 74 93 (by decide) rfl rfl ?_
                  refine RW.opd rfl rfl (LO.fieldAddr rfl rfl ty52 rfl (by decide)) ?_
                  refine RW.opd rfl rfl (LO.load rfl rfl rfl rfl ty3 rfl) ?_
                  refine RW.opd rfl rfl (LO.eql rfl rfl rfl) ?_
                  refine RW.opd rfl rfl (LO.move rfl rfl) ?_
                  refine RW.split (t := 51) rfl (fun hb29 => ?_) (fun hb29 => ?_)
                  ·
                    try (have hb29p := of_decide_eq_true hb29)
                    try (have hb29q := eq_of_beq hb29)
                    refine RW.sd rfl rfl rfl hb29 rfl ?_
                    refine RW.sd rfl rfl rfl hb29 rfl ?_
                    refine RW.sd rfl rfl rfl hb29 rfl ?_
                    refine RW.sd rfl rfl rfl hb29 rfl ?_
                    refine RW.ud rfl rfl rfl rfl ?_
                    refine RW.ud rfl rfl rfl rfl ?_
                    refine RW.ud rfl rfl rfl rfl ?_
                    refine RW.sd rfl rfl rfl hb29 rfl ?_
                    refine RW.sd rfl rfl rfl hb29 rfl ?_
                    refine RW.ud rfl rfl rfl rfl ?_
                    refine RW.ud rfl rfl rfl rfl ?_
                    refine RW.ud rfl rfl rfl rfl ?_
                    refine RW.sd rfl rfl rfl hb29 rfl ?_
                    refine RW.opd rfl rfl (LO.pick_t rfl rfl hb29 rfl) ?_
                    refine RW.opd rfl rfl (LO.assign rfl rfl) ?_
                    refine RW.nil ?_
                    repeat (refine W.seq ?_)
                    refine W.ret ⟨.inl rfl, _, mt, RVs.cons (RV.tmp rfl) (RVs.nil), all_mt, ?_⟩
                    exact ⟨by (simp_all [validN, retOf]) <;> (first | omega | (rw [Bool.eq_iff_iff]; simp only [Bool.and_eq_true, Bool.or_eq_true, decide_eq_true_eq, beq_iff_eq]; omega)), rfl⟩
                  ·
                    try (have hb29p := of_decide_eq_false hb29)
                    try (have hb29q := ne_of_beq_false hb29)
                    refine RW.gd rfl rfl rfl hb29 rfl (LO.fieldAddr rfl rfl ty52 rfl (by decide)) ?_
                    refine RW.gd rfl rfl rfl hb29 rfl (LO.load rfl rfl rfl rfl ty3 rfl) ?_
                    refine RW.gd rfl rfl rfl hb29 rfl (LO.eql rfl rfl rfl) ?_
                    refine RW.gd rfl rfl rfl hb29 rfl (LO.move rfl rfl) ?_
                    refine RW.split (t := 55) rfl (fun hb30 => ?_) (fun hb30 => ?_)
                    ·
                      try (have hb30p := of_decide_eq_true hb30)
                      try (have hb30q := eq_of_beq hb30)
                      refine RW.gd rfl rfl rfl hb30 rfl (LO.fieldAddr rfl rfl ty52 rfl (by decide)) ?_
                      refine RW.gd rfl rfl rfl hb30 rfl (LO.load rfl rfl rfl rfl ty3 rfl) ?_
                      refine RW.gd rfl rfl rfl hb30 rfl (LO.gtr rfl rfl rfl) ?_
                      refine RW.gd rfl rfl rfl hb29 rfl (LO.pick_t rfl rfl hb30 rfl) ?_
                      refine RW.gd rfl rfl rfl hb29 rfl (LO.move rfl rfl) ?_
                      refine RW.split (t := 60) rfl (fun hb31 => ?_) (fun hb31 => ?_)
                      ·
                        try (have hb31p := of_decide_eq_true hb31)
                        try (have hb31q := eq_of_beq hb31)
                        refine RW.gd rfl rfl rfl hb31 rfl (LO.fieldAddr rfl rfl ty52 rfl (by decide)) ?_
                        refine RW.gd rfl rfl rfl hb31 rfl (LO.load rfl rfl rfl rfl ty3 rfl) ?_
                        refine RW.gd rfl rfl rfl hb31 rfl (LO.lss rfl rfl rfl) ?_
                        refine RW.gd rfl rfl rfl hb29 rfl (LO.pick_t rfl rfl hb31 rfl) ?_
                        refine RW.opd rfl rfl (LO.pick_f rfl rfl hb29 rfl) ?_
                        refine RW.opd rfl rfl (LO.assign rfl rfl) ?_
                        refine RW.nil ?_
                        repeat (refine W.seq ?_)
                        refine W.ret ⟨.inl rfl, _, mt, RVs.cons (RV.tmp rfl) (RVs.nil), all_mt, ?_⟩
                        exact ⟨by (simp_all [validN, retOf]) <;> (first | omega | (rw [Bool.eq_iff_iff]; simp only [Bool.and_eq_true, Bool.or_eq_true, decide_eq_true_eq, beq_iff_eq]; omega)), rfl⟩
                      ·
                        try (have hb31p := of_decide_eq_false hb31)
                        try (have hb31q := ne_of_beq_false hb31)
                        refine RW.sd rfl rfl rfl hb31 rfl ?_
                        refine RW.sd rfl rfl rfl hb31 rfl ?_
                        refine RW.sd rfl rfl rfl hb31 rfl ?_
                        refine RW.gd rfl rfl rfl hb29 rfl (LO.pick_f rfl rfl hb31 rfl) ?_
                        refine RW.opd rfl rfl (LO.pick_f rfl rfl hb29 rfl) ?_
                        refine RW.opd rfl rfl (LO.assign rfl rfl) ?_
                        refine RW.nil ?_
                        repeat (refine W.seq ?_)
                        refine W.ret ⟨.inl rfl, _, mt, RVs.cons (RV.tmp rfl) (RVs.nil), all_mt, ?_⟩
                        exact ⟨by (simp_all [validN, retOf]) <;> (first | omega | (rw [Bool.eq_iff_iff]; simp only [Bool.and_eq_true, Bool.or_eq_true, decide_eq_true_eq, beq_iff_eq]; omega)), rfl⟩
                    ·
                      try (have hb30p := of_decide_eq_false hb30)
                      try (have hb30q := ne_of_beq_false hb30)
                      refine RW.sd rfl rfl rfl hb30 rfl ?_
                      refine RW.sd rfl rfl rfl hb30 rfl ?_
                      refine RW.sd rfl rfl rfl hb30 rfl ?_
                      refine RW.gd rfl rfl rfl hb29 rfl (LO.pick_f rfl rfl hb30 rfl) ?_
                      refine RW.gd rfl rfl rfl hb29 rfl (LO.move rfl rfl) ?_
                      refine RW.sd rfl rfl rfl rfl rfl ?_
                      refine RW.sd rfl rfl rfl rfl rfl ?_
                      refine RW.sd rfl rfl rfl rfl rfl ?_
                      refine RW.gd rfl rfl rfl hb29 rfl (LO.pick_f rfl rfl rfl rfl) ?_
                      refine RW.opd rfl rfl (LO.pick_f rfl rfl hb29 rfl) ?_
                      refine RW.opd rfl rfl (LO.assign rfl rfl) ?_
                      refine RW.nil ?_
                      repeat (refine W.seq ?_)
                      refine W.ret ⟨.inl rfl, _, mt, RVs.cons (RV.tmp rfl) (RVs.nil), all_mt, ?_⟩
                      exact ⟨by (simp_all [validN, retOf]) <;> (first | omega | (rw [Bool.eq_iff_iff]; simp only [Bool.and_eq_true, Bool.or_eq_true, decide_eq_true_eq, beq_iff_eq]; omega)), rfl⟩
              ·
                try (have hb27p := of_decide_eq_false hb27)
                try (have hb27q := ne_of_beq_false hb27)
                refine RW.sd rfl rfl rfl hb27 rfl ?_
                refine RW.sd rfl rfl rfl hb27 rfl ?_
                refine RW.sd rfl rfl rfl hb27 rfl ?_
                refine RW.sd rfl rfl rfl hb27 rfl ?_
                refine RW.opd rfl rfl (LO.pick_f rfl rfl hb27 rfl) ?_
                refine RW.opd rfl rfl (LO.assign rfl rfl) ?_
                refine RW.nil ?_
                repeat (refine W.seq ?_)
                refine W.cond_f rfl rfl ?_
                repeat (refine W.seq ?_)
                refine W.skip ?_
                repeat (refine W.seq ?_)
                refine W.region 74 93 (by decide) rfl rfl ?_
                refine RW.opd rfl rfl (LO.fieldAddr rfl rfl ty52 rfl (by decide)) ?_
                refine RW.opd rfl rfl (LO.load rfl rfl rfl rfl ty3 rfl) ?_
                refine RW.opd rfl rfl (LO.eql rfl rfl rfl) ?_
                refine RW.opd rfl rfl (LO.move rfl rfl) ?_
                refine RW.split (t := 51) rfl (fun hb32 => ?_) (fun hb32 => ?_)
                ·
                  try (have hb32p := of_decide_eq_true hb32)
                  try (have hb32q := eq_of_beq hb32)
                  refine RW.sd rfl rfl rfl hb32 rfl ?_
                  refine RW.sd rfl rfl rfl hb32 rfl ?_
                  refine RW.sd rfl rfl rfl hb32 rfl ?_
                  refine RW.sd rfl rfl rfl hb32 rfl ?_
                  refine RW.ud rfl rfl rfl rfl ?_
                  refine RW.ud rfl rfl rfl rfl ?_
                  refine RW.ud rfl rfl rfl rfl ?_
                  refine RW.sd rfl rfl rfl hb32 rfl ?_
                  refine RW.sd rfl rfl rfl hb32 rfl ?_
                  refine RW.ud rfl rfl rfl rfl ?_
                  refine RW.ud rfl rfl rfl rfl ?_
                  refine RW.ud rfl rfl rfl rfl ?_
                  refine RW.sd rfl rfl rfl hb32 rfl ?_
                  refine RW.opd rfl rfl (LO.pick_t rfl rfl hb32 rfl) ?_
                  refine RW.opd rfl rfl (LO.assign rfl rfl) ?_
                  refine RW.nil ?_
                  repeat (refine W.seq ?_)
                  refine W.ret ⟨.inl rfl, _, mt, RVs.cons (RV.tmp rfl) (RVs.nil), all_mt, ?_⟩
                  exact ⟨by (simp_all [validN, retOf]) <;> (first | omega | (rw [Bool.eq_iff_iff]; simp only [Bool.and_eq_true, Bool.or_eq_true, decide_eq_true_eq, beq_iff_eq]; omega)), rfl⟩
                ·
                  try (have hb32p := of_decide_eq_false hb32)
                  try (have hb32q := ne_of_beq_false hb32)
                  refine RW.gd rfl rfl rfl hb32 rfl (LO.fieldAddr rfl rfl ty52 rfl (by decide)) ?_
                  refine RW.gd rfl rfl rfl hb32 rfl (LO.load rfl rfl rfl rfl ty3 rfl) ?_
                  refine RW.gd rfl rfl rfl hb32 rfl (LO.eql rfl rfl rfl) ?_
                  refine RW.gd rfl rfl rfl hb32 rfl (LO.move rfl rfl) ?_
                  refine RW.split (t := 55) rfl (fun hb33 => ?_) (fun hb33 => ?_)
                  ·
                    try (have hb33p := of_decide_eq_true hb33)
                    try (have hb33q := eq_of_beq hb33)
                    refine RW.gd rfl rfl rfl hb33 rfl (LO.fieldAddr rfl rfl ty52 rfl (by decide)) ?_
                    refine RW.gd rfl rfl rfl hb33 rfl (LO.load rfl rfl rfl rfl ty3 rfl) ?_
                    refine RW.gd rfl rfl rfl hb33 rfl (LO.gtr rfl rfl rfl) ?_
                    refine RW.gd rfl rfl rfl hb32 rfl (LO.pick_t rfl rfl hb33 rfl) ?_
                    refine RW.gd rfl rfl rfl hb32 rfl (LO.move rfl rfl) ?_
                    refine RW.split (t := 60) rfl (fun hb34 => ?_) (fun hb34 => ?_)
                    ·
                      try (have hb34p := of_decide_eq_true hb34)
                      try (have hb34q := eq_of_beq hb34)
                      refine RW.gd rfl rfl rfl hb34 rfl (LO.fieldAddr rfl rfl ty52 rfl (by decide)) ?_
                      refine RW.gd rfl rfl rfl hb34 rfl (LO.load rfl rfl rfl rfl ty3 rfl) ?_
                      refine RW.gd rfl rfl rfl hb34 rfl (LO.lss rfl rfl rfl) ?_
                      refine RW.gd rfl rfl rfl hb32 rfl (LO.pick_t rfl rfl hb34 rfl) ?_
                      refine RW.opd rfl rfl (LO.pick_f rfl rfl hb32 rfl) ?_
                      refine RW.opd rfl rfl (LO.assign rfl rfl) ?_
                      refine RW.nil ?_
                      repeat (refine W.seq ?_)
                      refine W.ret ⟨.inl rfl, _, mt, RVs.cons (RV.tmp rfl) (RVs.nil), all_mt, ?_⟩
                      exact ⟨by (simp_all [validN, retOf]) <;> (first | omega | (rw [Bool.eq_iff_iff]; simp only [Bool.and_eq_true, Bool.or_eq_true, decide_eq_true_eq, beq_iff_eq]; omega)), rfl⟩
                    ·
                      try (have hb34p := of_decide_eq_false hb34)
                      try (have hb34q := ne_of_beq_false hb34)
                      refine RW.sd rfl rfl rfl hb34 rfl ?_
                      refine RW.sd rfl rfl rfl hb34 rfl ?_
                      refine RW.sd rfl rfl rfl hb34 rfl ?_
                      refine RW.gd rfl rfl rfl hb32 rfl (LO.pick_f rfl rfl hb34 rfl) ?_
                      refine RW.opd rfl rfl (LO.pick_f rfl rfl hb32 rfl) ?_
                      refine RW.opd rfl rfl (LO.assign rfl rfl) ?_
                      refine RW.nil ?_
                      repeat (refine W.seq ?_)
                      refine W.ret ⟨.inl rfl, _, mt, RVs.cons (RV.tmp rfl) (RVs.nil), all_mt, ?_⟩
                      exact ⟨by (simp_all [validN, retOf]) <;> (first | omega | (rw [Bool.eq_iff_iff]; simp only [Bool.and_eq_true, Bool.or_eq_true, decide_eq_true_eq, beq_iff_eq]; omega)), rfl⟩
                  ·
                    try (have hb33p := of_decide_eq_false hb33)
                    try (have hb33q := ne_of_beq_false hb33)
                    refine RW.sd rfl rfl rfl hb33 rfl ?_
                    refine RW.sd rfl rfl rfl hb33 rfl ?_
                    refine RW.sd rfl rfl rfl hb33 rfl ?_
                    refine RW.gd rfl rfl rfl hb32 rfl (LO.pick_f rfl rfl hb33 rfl) ?_
                    refine RW.gd rfl rfl rfl hb32 rfl (LO.move rfl rfl) ?_
                    refine RW.sd rfl rfl rfl rfl rfl ?_
                    refine RW.sd rfl rfl rfl rfl rfl ?_
                    refine RW.sd rfl rfl rfl rfl rfl ?_
                    refine RW.gd rfl rfl rfl hb32 rfl (LO.pick_f rfl rfl rfl rfl) ?_
                    refine RW.opd rfl rfl (LO.pick_f rfl rfl hb32 rfl) ?_
                    refine RW.opd rfl rfl (LO.assign rfl rfl) ?_
                    refine RW.nil ?_
                    repeat (refine W.seq ?_)
                    refine W.ret ⟨.inl rfl, _, mt, RVs.cons (RV.tmp rfl) (RVs.nil), all_mt, ?_⟩
                    exact ⟨by (simp_all [validN, retOf]) <;> (first | omega | (rw [Bool.eq_iff_iff]; simp only [Bool.and_eq_true, Bool.or_eq_true, decide_eq_true_eq, beq_iff_eq]; omega)), rfl⟩
        ·
          try (have hb24p := of_decide_eq_false hb24)
          try (have hb24q := ne_of_beq_false hb24)
          refine RW.sd rfl rfl rfl hb24 rfl ?_
          refine RW.sd rfl rfl rfl hb24 rfl ?_
          refine RW.sd rfl rfl rfl hb24 rfl ?_
          refine RW.sd rfl rfl rfl hb24 rfl ?_
          refine RW.sd rfl rfl rfl hb24 rfl ?_
          refine RW.ud rfl rfl rfl rfl ?_
          refine RW.ud rfl rfl rfl rfl ?_
          refine RW.ud rfl rfl rfl rfl ?_
          refine RW.sd rfl rfl rfl hb24 rfl ?_
          refine RW.opd rfl rfl (LO.pick_f rfl rfl hb24 rfl) ?_
          refine RW.opd rfl rfl (LO.assign rfl rfl) ?_
          refine RW.nil ?_
          repeat (refine W.seq ?_)
          refine W.cond_f rfl rfl ?_
          repeat (refine W.seq ?_)
          refine W.region 54 65 (by decide) rfl rfl ?_
          refine RW.opd rfl rfl (LO.fieldAddr rfl rfl ty52 rfl (by decide)) ?_
          refine RW.opd rfl rfl (LO.load rfl rfl rfl rfl ty3 rfl) ?_
          refine RW.opd rfl rfl (LO.call0 (fr := []) rfl rfl (htg _) fok54 (.cons rfl (.pure rfl) .nil) rfl) ?_
          refine RW.opd rfl rfl (LO.not rfl rfl) ?_
          refine RW.opd rfl rfl (LO.move rfl rfl) ?_
          refine RW.split (t := 42) rfl (fun hb35 => ?_) (fun hb35 => ?_)
          ·
            try (have hb35p := of_decide_eq_true hb35)
            try (have hb35q := eq_of_beq hb35)
            refine RW.gd rfl rfl rfl hb35 rfl (LO.fieldAddr rfl rfl ty52 rfl (by decide)) ?_
            refine RW.gd rfl rfl rfl hb35 rfl (LO.load_agg rfl rfl rfl ty24 rfl (Tk.lit rfl)) ?_
            refine RW.gd rfl rfl rfl hb35 rfl (LO.build_st rfl ty24 .nil) ?_
            refine RW.gd rfl rfl rfl hb35 rfl (LO.neq_ad n.tg zAd rfl rfl rfl) ?_
            refine RW.opd rfl rfl (LO.pick_t rfl rfl hb35 rfl) ?_
            refine RW.opd rfl rfl (LO.assign rfl rfl) ?_
            refine RW.nil ?_
            repeat (refine W.seq ?_)
            refine W.cond rfl (fun hb36 => ?_) (fun hb36 => ?_)
            ·
              try (have hb36p := of_decide_eq_true hb36)
              try (have hb36q := eq_of_beq hb36)
              repeat (refine W.seq ?_)
              refine W.region 69 70 (by decide) rfl rfl ?_
              refine RW.opd rfl rfl (LO.assign rfl rfl) ?_
              refine RW.nil ?_
              repeat (refine W.seq ?_)
              refine W.ret ⟨.inl rfl, _, mt, RVs.cons (RV.tmp rfl) (RVs.nil), all_mt, ?_⟩
              exact ⟨by (simp_all [validN, retOf]) <;> (first | omega | (rw [Bool.eq_iff_iff]; simp only [Bool.and_eq_true, Bool.or_eq_true, decide_eq_true_eq, beq_iff_eq]; omega)), rfl⟩
            ·
              try (have hb36p := of_decide_eq_false hb36)
              try (have hb36q := ne_of_beq_false hb36)
              repeat (refine W.seq ?_)
              refine W.skip ?_
              repeat (refine W.seq ?_)
              refine W.region 74 93 (by decide) rfl rfl ?_
              refine RW.opd rfl rfl (LO.fieldAddr rfl rfl ty52 rfl (by decide)) ?_
              refine RW.opd rfl rfl (LO.load rfl rfl rfl rfl ty3 rfl) ?_
              refine RW.opd rfl rfl (LO.eql rfl rfl rfl) ?_
              refine RW.opd rfl rfl (LO.move rfl rfl) ?_
              refine RW.split (t := 51) rfl (fun hb37 => ?_) (fun hb37 => ?_)
              ·
                try (have hb37p := of_decide_eq_true hb37)
                try (have hb37q := eq_of_beq hb37)
                refine RW.sd rfl rfl rfl hb37 rfl ?_
                refine RW.sd rfl rfl rfl hb37 rfl ?_
                refine RW.sd rfl rfl rfl hb37 rfl ?_
                refine RW.sd rfl rfl rfl hb37 rfl ?_
                refine RW.ud rfl rfl rfl rfl ?_
                refine RW.ud rfl rfl rfl rfl ?_
                refine RW.ud rfl rfl rfl rfl ?_
                refine RW.sd rfl rfl rfl hb37 rfl ?_
                refine RW.sd rfl rfl rfl hb37 rfl ?_
                refine RW.ud rfl rfl rfl rfl ?_
                refine RW.ud rfl rfl rfl rfl ?_
                refine RW.ud rfl rfl rfl rfl ?_
                refine RW.sd rfl rfl rfl hb37 rfl ?_
                refine RW.opd rfl rfl (LO.pick_t rfl rfl hb37 rfl) ?_
                refine RW.opd rfl rfl (LO.assign rfl rfl) ?_
                refine RW.nil ?_
                repeat (refine W.seq ?_)
                refine W.ret ⟨.inl rfl, _, mt, RVs.cons (RV.tmp rfl) (RVs.nil), all_mt, ?_⟩
                exact ⟨by (simp_all [validN, retOf]) <;> (first | omega | (rw [Bool.eq_iff_iff]; simp only [Bool.and_eq_true, Bool.or_eq_true, decide_eq_true_eq, beq_iff_eq]; omega)), rfl⟩
              ·
                try (have hb37p := of_decide_eq_false hb37)
                try (have hb37q := ne_of_beq_false hb37)
                refine RW.gd rfl rfl rfl hb37 rfl (LO.fieldAddr rfl rfl ty52 rfl (by decide)) ?_
                refine RW.gd rfl rfl rfl hb37 rfl (LO.load rfl rfl rfl rfl ty3 rfl) ?_
                refine RW.gd rfl rfl rfl hb37 rfl (LO.eql rfl rfl rfl) ?_
                refine RW.gd rfl rfl rfl hb37 rfl (LO.move rfl rfl) ?_
                refine RW.split (t := 55) rfl (fun hb38 => ?_) (fun hb38 => ?_)
                ·
                  try (have hb38p := of_decide_eq_true hb38)
                  try (have hb38q := eq_of_beq hb38)
                  refine RW.gd rfl rfl rfl hb38 rfl (LO.fieldAddr rfl rfl ty52 rfl (by decide)) ?_
                  refine RW.gd rfl rfl rfl hb38 rfl (LO.load rfl rfl rfl rfl ty3 rfl) ?_
                  refine RW.gd rfl rfl rfl hb38 rfl (LO.gtr rfl rfl rfl) ?_
                  refine RW.gd rfl rfl rfl hb37 rfl (LO.pick_t rfl rfl hb38 rfl) ?_
                  refine RW.gd rfl rfl rfl hb37 rfl (LO.move rfl rfl) ?_
                  refine RW.split (t := 60) rfl (fun hb39 => ?_) (fun hb39 => ?_)
                  ·
                    try (have hb39p := of_decide_eq_true hb39)
                    try (have hb39q := eq_of_beq hb39)
                    refine RW.gd rfl rfl rfl hb39 rfl (LO.fieldAddr rfl rfl ty52 rfl (by decide)) ?_
                    refine RW.gd rfl rfl rfl hb39 rfl (LO.load rfl rfl rfl rfl ty3 rfl) ?_
                    refine RW.gd rfl rfl rfl hb39 rfl (LO.lss rfl rfl rfl) ?_
                    refine RW.gd rfl rfl rfl hb37 rfl (LO.pick_t rfl rfl hb39 rfl) ?_
                    refine RW.opd rfl rfl (LO.pick_f rfl rfl hb37 rfl) ?_
                    refine RW.opd rfl rfl (LO.assign rfl rfl) ?_
                    refine RW.nil ?_
                    repeat (refine W.seq ?_)
                    refine W.ret ⟨.inl rfl, _, mt, RVs.cons (RV.tmp rfl) (RVs.nil), all_mt, ?_⟩
                    exact ⟨by (simp_all [validN, retOf]) <;> (first | omega | (rw [Bool.eq_iff_iff]; simp only [Bool.and_eq_true, Bool.or_eq_true, decide_eq_true_eq, beq_iff_eq]; omega)), rfl⟩
                  ·
                    try (have hb39p := of_decide_eq_false hb39)
                    try (have hb39q := ne_of_beq_false hb39)
                    refine RW.sd rfl rfl rfl hb39 rfl ?_
                    refine RW.sd rfl rfl rfl hb39 rfl ?_
                    refine RW.sd rfl rfl rfl hb39 rfl ?_
                    refine RW.gd rfl rfl rfl hb37 rfl (LO.pick_f rfl rfl hb39 rfl) ?_
                    refine RW.opd rfl rfl (LO.pick_f rfl rfl hb37 rfl) ?_
                    refine RW.opd rfl rfl (LO.assign rfl rfl) ?_
                    refine RW.nil ?_
                    repeat (refine W.seq ?_)
                    refine W.ret ⟨.inl rfl, _, mt, RVs.cons (RV.tmp rfl) (RVs.nil), all_mt, ?_⟩
                    exact ⟨by (simp_all [validN, retOf]) <;> (first | omega | (rw [Bool.eq_iff_iff]; simp only [Bool.and_eq_true, Bool.or_eq_true, decide_eq_true_eq, beq_iff_eq]; omega)), rfl⟩
                ·
                  try (have hb38p := of_decide_eq_false hb38)
                  try (have hb38q := ne_of_beq_false hb38)
                  refine RW.sd rfl rfl rfl hb38 rfl ?_
                  refine RW.sd rfl rfl rfl hb38 rfl ?_
                  refine RW.sd rfl rfl rfl hb38 rfl ?_
                  refine RW.gd rfl rfl rfl hb37 rfl (LO.pick_f rfl rfl hb38 rfl) ?_
                  refine RW.gd rfl rfl rfl hb37 rfl (LO.move rfl rfl) ?_
                  refine RW.sd rfl rfl rfl rfl rfl ?_
                  refine RW.sd rfl rfl rfl rfl rfl ?_
                  refine RW.sd rfl rfl rfl rfl rfl ?_
                  refine RW.gd rfl rfl rfl hb37 rfl (LO.pick_f rfl rfl rfl rfl) ?_
                  refine RW.opd rfl rfl (LO.pick_f rfl rfl hb37 rfl) ?_
                  refine RW.opd rfl rfl (LO.assign rfl rfl) ?_
                  refine RW.nil ?_
                  repeat (refine W.seq ?_)
                  refine W.ret ⟨.inl rfl, _, mt, RVs.cons (RV.tmp rfl) (RVs.nil), all_mt, ?_⟩
                  exact ⟨by (simp_all [validN, retOf]) <;> (first | omega | (rw [Bool.eq_iff_iff]; simp only [Bool.and_eq_true, Bool.or_eq_true, decide_eq_true_eq, beq_iff_eq]; omega)), rfl⟩
          ·
            try (have hb35p := of_decide_eq_false hb35)
            try (have hb35q := ne_of_beq_false hb35)
            refine RW.sd rfl rfl rfl hb35 rfl ?_
            refine RW.sd rfl rfl rfl hb35 rfl ?_
            refine RW.sd rfl rfl rfl hb35 rfl ?_
            refine RW.sd rfl rfl rfl hb35 rfl ?_
            refine RW.opd rfl rfl (LO.pick_f rfl rfl hb35 rfl) ?_
            refine RW.opd rfl rfl (LO.assign rfl rfl) ?_
            refine RW.nil ?_
            repeat (refine W.seq ?_)
            refine W.cond_f rfl rfl ?_
            repeat (refine W.seq ?_)
            refine W.skip ?_
            repeat (refine W.seq ?_)
            refine W.region 74 93 (by decide) rfl rfl ?_
            refine RW.opd rfl rfl (LO.fieldAddr rfl rfl ty52 rfl (by decide)) ?_
            refine RW.opd rfl rfl (LO.load rfl rfl rfl rfl ty3 rfl) ?_
            refine RW.opd rfl rfl (LO.eql rfl rfl rfl) ?_
            refine RW.opd rfl rfl (LO.move rfl rfl) ?_
            refine RW.split (t := 51) rfl (fun hb40 => ?_) (fun hb40 => ?_)
            ·
              try (have hb40p := of_decide_eq_true hb40)
              try (have hb40q := eq_of_beq hb40)
              refine RW.sd rfl rfl rfl hb40 rfl ?_
              refine RW.sd rfl rfl rfl hb40 rfl ?_
              refine RW.sd rfl rfl rfl hb40 rfl ?_
              refine RW.sd rfl rfl rfl hb40 rfl ?_
              refine RW.ud rfl rfl rfl rfl ?_
              refine RW.ud rfl rfl rfl rfl ?_
              refine RW.ud rfl rfl rfl rfl ?_
              refine RW.sd rfl rfl rfl hb40 rfl ?_
              refine RW.sd rfl rfl rfl hb40 rfl ?_
              refine RW.ud rfl rfl rfl rfl ?_
              refine RW.ud rfl rfl rfl rfl ?_
              refine RW.ud rfl rfl rfl rfl ?_
              refine RW.sd rfl rfl rfl hb40 rfl ?_
              refine RW.opd rfl rfl (LO.pick_t rfl rfl hb40 rfl) ?_
              refine RW.opd rfl rfl (LO.assign rfl rfl) ?_
              refine RW.nil ?_
              repeat (refine W.seq ?_)
              refine W.ret ⟨.inl rfl, _, mt, RVs.cons (RV.tmp rfl) (RVs.nil), all_mt, ?_⟩
              exact ⟨by (simp_all [validN, retOf]) <;> (first | omega | (rw [Bool.eq_iff_iff]; simp only [Bool.and_eq_true, Bool.or_eq_true, decide_eq_true_eq, beq_iff_eq]; omega)), rfl⟩
            ·
              try (have hb40p := of_decide_eq_false hb40)
              try (have hb40q := ne_of_beq_false hb40)
              refine RW.gd rfl rfl rfl hb40 rfl (LO.fieldAddr rfl rfl ty52 rfl (by decide)) ?_
              refine RW.gd rfl rfl rfl hb40 rfl (LO.load rfl rfl rfl rfl ty3 rfl) ?_
              refine RW.gd rfl rfl rfl hb40 rfl (LO.eql rfl rfl rfl) ?_
              refine RW.gd rfl rfl rfl hb40 rfl (LO.move rfl rfl) ?_
              refine RW.split (t := 55) rfl (fun hb41 => ?_) (fun hb41 => ?_)
              ·
                try (have hb41p := of_decide_eq_true hb41)
                try (have hb41q := eq_of_beq hb41)
                refine RW.gd rfl rfl rfl hb41 rfl (LO.fieldAddr rfl rfl ty52 rfl (by decide)) ?_
                refine RW.gd rfl rfl rfl hb41 rfl (LO.load rfl rfl rfl rfl ty3 rfl) ?_
                refine RW.gd rfl rfl rfl hb41 rfl (LO.gtr rfl rfl rfl) ?_
                refine RW.gd rfl rfl rfl hb40 rfl (LO.pick_t rfl rfl hb41 rfl) ?_
                refine RW.gd rfl rfl rfl hb40 rfl (LO.move rfl rfl) ?_
                refine RW.split (t := 60) rfl (fun hb42 => ?_) (fun hb42 => ?_)
                ·
                  try (have hb42p := of_decide_eq_true hb42)
                  try (have hb42q := eq_of_beq hb42)
                  refine RW.gd rfl rfl rfl hb42 rfl (LO.fieldAddr rfl rfl ty52 rfl (by decide)) ?_
                  refine RW.gd rfl rfl rfl hb42 rfl (LO.load rfl rfl rfl rfl ty3 rfl) ?_
                  refine RW.gd rfl rfl rfl hb42 rfl (LO.lss rfl rfl rfl) ?_
                  refine RW.gd rfl rfl rfl hb40 rfl (LO.pick_t rfl rfl hb42 rfl) ?_
                  refine RW.opd rfl rfl (LO.pick_f rfl rfl hb40 rfl) ?_
                  refine RW.opd rfl rfl (LO.assign rfl rfl) ?_
                  refine RW.nil ?_
                  repeat (refine W.seq ?_)
                  refine W.ret ⟨.inl rfl, _, mt, RVs.cons (RV.tmp rfl) (RVs.nil), all_mt, ?_⟩
                  exact ⟨by (simp_all [validN, retOf]) <;> (first | omega | (rw [Bool.eq_iff_iff]; simp only [Bool.and_eq_true, Bool.or_eq_true, decide_eq_true_eq, beq_iff_eq]; omega)), rfl⟩
                ·
                  try (have hb42p := of_decide_eq_false hb42)
                  try (have hb42q := ne_of_beq_false hb42)
                  refine RW.sd rfl rfl rfl hb42 rfl ?_
                  refine RW.sd rfl rfl rfl hb42 rfl ?_
                  refine RW.sd rfl rfl rfl hb42 rfl ?_
                  refine RW.gd rfl rfl rfl hb40 rfl (LO.pick_f rfl rfl hb42 rfl) ?_
                  refine RW.opd rfl rfl (LO.pick_f rfl rfl hb40 rfl) ?_
                  refine RW.opd rfl rfl (LO.assign rfl rfl) ?_
                  refine RW.nil ?_
                  repeat (refine W.seq ?_)
                  refine W.ret ⟨.inl rfl, _, mt, RVs.cons (RV.tmp rfl) (RVs.nil), all_mt, ?_⟩
                  exact ⟨by (simp_all [validN, retOf]) <;> (first | omega | (rw [Bool.eq_iff_iff]; simp only [Bool.and_eq_true, Bool.or_eq_true, decide_eq_true_eq, beq_iff_eq]; omega)), rfl⟩
              ·
                try (have hb41p := of_decide_eq_false hb41)
                try (have hb41q := ne_of_beq_false hb41)
                refine RW.sd rfl rfl rfl hb41 rfl ?_
                refine RW.sd rfl rfl rfl hb41 rfl ?_
                refine RW.sd rfl rfl rfl hb41 rfl ?_
                refine RW.gd rfl rfl rfl hb40 rfl (LO.pick_f rfl rfl hb41 rfl) ?_
                refine RW.gd rfl rfl rfl hb40 rfl (LO.move rfl rfl) ?_
                refine RW.sd rfl rfl rfl rfl rfl ?_
                refine RW.sd rfl rfl rfl rfl rfl ?_
                refine RW.sd rfl rfl rfl rfl rfl ?_
                refine RW.gd rfl rfl rfl hb40 rfl (LO.pick_f rfl rfl rfl rfl) ?_
                refine RW.opd rfl rfl (LO.pick_f rfl rfl hb40 rfl) ?_
                refine RW.opd rfl rfl (LO.assign rfl rfl) ?_
                refine RW.nil ?_
                repeat (refine W.seq ?_)
                refine W.ret ⟨.inl rfl, _, mt, RVs.cons (RV.tmp rfl) (RVs.nil), all_mt, ?_⟩
                exact ⟨by (simp_all [validN, retOf]) <;> (first | omega | (rw [Bool.eq_iff_iff]; simp only [Bool.and_eq_true, Bool.or_eq_true, decide_eq_true_eq, beq_iff_eq]; omega)), rfl⟩
set_option maxHeartbeats 1000000 in
theorem nvalidX_any (n : Nb) (hl : n.ln.length = 6) : AFn Try.prog 27 0 [.agg (nbC n)] mt (.base (.bool (validN n))) mt := by
  refine AFn.eq Try.func27 rfl rfl (Nat.le_of_ble_eq_true rfl) ?_
  have htg := targetedX_any
  have hgr := groupX_any
  repeat (refine W.seq ?_)
  refine W.region 0 2 (by decide) rfl rfl ?_
  refine RW.opd rfl rfl (LO.box rfl rfl rfl) ?_
  refine RW.opd rfl rfl (LO.assign rfl rfl) ?_
  refine RW.nil ?_
  repeat (refine W.seq ?_)
  refine W.region 6 45 (by decide) rfl rfl ?_
  refine RW.opd rfl rfl (LO.fieldAddr rfl rfl ty52 rfl (by decide)) ?_
  refine RW.opd rfl rfl (LO.load rfl rfl rfl rfl ty3 rfl) ?_
  refine RW.opd rfl rfl (LO.lss rfl rfl rfl) ?_
  refine RW.opd rfl rfl (LO.move rfl rfl) ?_
  refine RW.split (t := 6) rfl (fun hb43 => ?_) (fun hb43 => ?_)
  ·
    try (have hb43p := of_decide_eq_true hb43)
    try (have hb43q := eq_of_beq hb43)
    refine RW.sd rfl rfl rfl hb43 rfl ?_
    refine RW.sd rfl rfl rfl hb43 rfl ?_
    refine RW.sd rfl rfl rfl hb43 rfl ?_
    refine RW.opd rfl rfl (LO.pick_t rfl rfl hb43 rfl) ?_
    refine RW.opd rfl rfl (LO.move rfl rfl) ?_
    refine RW.sd rfl rfl rfl rfl rfl ?_
    refine RW.sd rfl rfl rfl rfl rfl ?_
    refine RW.sd rfl rfl rfl rfl rfl ?_
    refine RW.opd rfl rfl (LO.pick_t rfl rfl rfl rfl) ?_
    refine RW.opd rfl rfl (LO.move rfl rfl) ?_
    refine RW.sd rfl rfl rfl rfl rfl ?_
    refine RW.sd rfl rfl rfl rfl rfl ?_
    refine RW.sd rfl rfl rfl rfl rfl ?_
    refine RW.opd rfl rfl (LO.pick_t rfl rfl rfl rfl) ?_
    refine RW.opd rfl rfl (LO.move rfl rfl) ?_
    refine RW.sd rfl rfl rfl rfl rfl ?_
    refine RW.sd rfl rfl rfl rfl rfl ?_
    refine RW.sd rfl rfl rfl rfl rfl ?_
    refine RW.sd rfl rfl rfl rfl rfl ?_
    refine RW.ud rfl rfl rfl rfl ?_
    refine RW.ud rfl rfl rfl rfl ?_
    refine RW.ud rfl rfl rfl rfl ?_
    refine RW.sd rfl rfl rfl rfl rfl ?_
    refine RW.opd rfl rfl (LO.pick_t rfl rfl rfl rfl) ?_
    refine RW.opd rfl rfl (LO.move rfl rfl) ?_
    refine RW.sd rfl rfl rfl rfl rfl ?_
    refine RW.sd rfl rfl rfl rfl rfl ?_
    refine RW.sd rfl rfl rfl rfl rfl ?_
    refine RW.sd rfl rfl rfl rfl rfl ?_
    refine RW.ud rfl rfl rfl rfl ?_
    refine RW.ud rfl rfl rfl rfl ?_
    refine RW.ud rfl rfl rfl rfl ?_
    refine RW.ud rfl rfl rfl rfl ?_
    refine RW.sd rfl rfl rfl rfl rfl ?_
    refine RW.opd rfl rfl (LO.pick_t rfl rfl rfl rfl) ?_
    refine RW.nil ?_
    repeat (refine W.seq ?_)
    refine W.cond_t rfl rfl ?_
    repeat (refine W.seq ?_)
    refine W.region 49 50 (by decide) rfl rfl ?_
    refine RW.opd rfl rfl (LO.assign rfl rfl) ?_
    refine RW.nil ?_
    repeat (refine W.seq ?_)
    refine W.ret ⟨.inl rfl, _, mt, RVs.cons (RV.tmp rfl) (RVs.nil), all_mt, ?_⟩
    exact ⟨by (simp_all [validN, retOf]) <;> (first | omega | (rw [Bool.eq_iff_iff]; simp only [Bool.and_eq_true, Bool.or_eq_true, decide_eq_true_eq, beq_iff_eq]; omega)), rfl⟩
  ·
    try (have hb43p := of_decide_eq_false hb43)
    try (have hb43q := ne_of_beq_false hb43)
    refine RW.gd rfl rfl rfl hb43 rfl (LO.fieldAddr rfl rfl ty52 rfl (by decide)) ?_
    refine RW.gd rfl rfl rfl hb43 rfl (LO.load rfl rfl rfl rfl ty3 rfl) ?_
    refine RW.gd rfl rfl rfl hb43 rfl (LO.gtr rfl rfl rfl) ?_
    refine RW.opd rfl rfl (LO.pick_f rfl rfl hb43 rfl) ?_
    refine RW.opd rfl rfl (LO.move rfl rfl) ?_
    refine RW.split (t := 11) rfl (fun hb44 => ?_) (fun hb44 => ?_)
    ·
      try (have hb44p := of_decide_eq_true hb44)
      try (have hb44q := eq_of_beq hb44)
      refine RW.sd rfl rfl rfl hb44 rfl ?_
      refine RW.sd rfl rfl rfl hb44 rfl ?_
      refine RW.sd rfl rfl rfl hb44 rfl ?_
      refine RW.opd rfl rfl (LO.pick_t rfl rfl hb44 rfl) ?_
      refine RW.opd rfl rfl (LO.move rfl rfl) ?_
      refine RW.sd rfl rfl rfl rfl rfl ?_
      refine RW.sd rfl rfl rfl rfl rfl ?_
      refine RW.sd rfl rfl rfl rfl rfl ?_
      refine RW.opd rfl rfl (LO.pick_t rfl rfl rfl rfl) ?_
      refine RW.opd rfl rfl (LO.move rfl rfl) ?_
      refine RW.sd rfl rfl rfl rfl rfl ?_
      refine RW.sd rfl rfl rfl rfl rfl ?_
      refine RW.sd rfl rfl rfl rfl rfl ?_
      refine RW.sd rfl rfl rfl rfl rfl ?_
      refine RW.ud rfl rfl rfl rfl ?_
      refine RW.ud rfl rfl rfl rfl ?_
      refine RW.ud rfl rfl rfl rfl ?_
      refine RW.sd rfl rfl rfl rfl rfl ?_
      refine RW.opd rfl rfl (LO.pick_t rfl rfl rfl rfl) ?_
      refine RW.opd rfl rfl (LO.move rfl rfl) ?_
      refine RW.sd rfl rfl rfl rfl rfl ?_
      refine RW.sd rfl rfl rfl rfl rfl ?_
      refine RW.sd rfl rfl rfl rfl rfl ?_
      refine RW.sd rfl rfl rfl rfl rfl ?_
      refine RW.ud rfl rfl rfl rfl ?_
      refine RW.ud rfl rfl rfl rfl ?_
      refine RW.ud rfl rfl rfl rfl ?_
      refine RW.ud rfl rfl rfl rfl ?_
      refine RW.sd rfl rfl rfl rfl rfl ?_
      refine RW.opd rfl rfl (LO.pick_t rfl rfl rfl rfl) ?_
      refine RW.nil ?_
      repeat (refine W.seq ?_)
      refine W.cond_t rfl rfl ?_
      repeat (refine W.seq ?_)
      refine W.region 49 50 (by decide) rfl rfl ?_
      refine RW.opd rfl rfl (LO.assign rfl rfl) ?_
      refine RW.nil ?_
      repeat (refine W.seq ?_)
      refine W.ret ⟨.inl rfl, _, mt, RVs.cons (RV.tmp rfl) (RVs.nil), all_mt, ?_⟩
      exact ⟨by (simp_all [validN, retOf]) <;> (first | omega | (rw [Bool.eq_iff_iff]; simp only [Bool.and_eq_true, Bool.or_eq_true, decide_eq_true_eq, beq_iff_eq]; omega)), rfl⟩
    ·
      try (have hb44p := of_decide_eq_false hb44)
      try (have hb44q := ne_of_beq_false hb44)
      refine RW.gd rfl rfl rfl hb44 rfl (LO.fieldAddr rfl rfl ty52 rfl (by decide)) ?_
      refine RW.gd rfl rfl rfl hb44 rfl (LO.load rfl rfl rfl rfl ty3 rfl) ?_
      refine RW.gd rfl rfl rfl hb44 rfl (LO.lss rfl rfl rfl) ?_
      refine RW.opd rfl rfl (LO.pick_f rfl rfl hb44 rfl) ?_
      refine RW.opd rfl rfl (LO.move rfl rfl) ?_
      refine RW.split (t := 16) rfl (fun hb45 => ?_) (fun hb45 => ?_)
      ·
        try (have hb45p := of_decide_eq_true hb45)
        try (have hb45q := eq_of_beq hb45)
        refine RW.sd rfl rfl rfl hb45 rfl ?_
        refine RW.sd rfl rfl rfl hb45 rfl ?_
        refine RW.sd rfl rfl rfl hb45 rfl ?_
        refine RW.opd rfl rfl (LO.pick_t rfl rfl hb45 rfl) ?_
        refine RW.opd rfl rfl (LO.move rfl rfl) ?_
        refine RW.sd rfl rfl rfl rfl rfl ?_
        refine RW.sd rfl rfl rfl rfl rfl ?_
        refine RW.sd rfl rfl rfl rfl rfl ?_
        refine RW.sd rfl rfl rfl rfl rfl ?_
        refine RW.ud rfl rfl rfl rfl ?_
        refine RW.ud rfl rfl rfl rfl ?_
        refine RW.ud rfl rfl rfl rfl ?_
        refine RW.sd rfl rfl rfl rfl rfl ?_
        refine RW.opd rfl rfl (LO.pick_t rfl rfl rfl rfl) ?_
        refine RW.opd rfl rfl (LO.move rfl rfl) ?_
        refine RW.sd rfl rfl rfl rfl rfl ?_
        refine RW.sd rfl rfl rfl rfl rfl ?_
        refine RW.sd rfl rfl rfl rfl rfl ?_
        refine RW.sd rfl rfl rfl rfl rfl ?_
        refine RW.ud rfl rfl rfl rfl ?_
        refine RW.ud rfl rfl rfl rfl ?_
        refine RW.ud rfl rfl rfl rfl ?_
        refine RW.ud rfl rfl rfl rfl ?_
        refine RW.sd rfl rfl rfl rfl rfl ?_
        refine RW.opd rfl rfl (LO.pick_t rfl rfl rfl rfl) ?_
        refine RW.nil ?_
        repeat (refine W.seq ?_)
        refine W.cond_t rfl rfl ?_
        repeat (refine W.seq ?_)
        refine W.region 49 50 (by decide) rfl rfl ?_
        refine RW.opd rfl rfl (LO.assign rfl rfl) ?_
        refine RW.nil ?_
        repeat (refine W.seq ?_)
        refine W.ret ⟨.inl rfl, _, mt, RVs.cons (RV.tmp rfl) (RVs.nil), all_mt, ?_⟩
        exact ⟨by (simp_all [validN, retOf]) <;> (first | omega | (rw [Bool.eq_iff_iff]; simp only [Bool.and_eq_true, Bool.or_eq_true, decide_eq_true_eq, beq_iff_eq]; omega)), rfl⟩
      ·
        try (have hb45p := of_decide_eq_false hb45)
        try (have hb45q := ne_of_beq_false hb45)
        refine RW.gd rfl rfl rfl hb45 rfl (LO.fieldAddr rfl rfl ty52 rfl (by decide)) ?_
        refine RW.gd rfl rfl rfl hb45 rfl (LO.load rfl rfl rfl rfl ty3 rfl) ?_
        refine RW.gd rfl rfl rfl hb45 rfl (LO.gtr rfl rfl rfl) ?_
        refine RW.opd rfl rfl (LO.pick_f rfl rfl hb45 rfl) ?_
        refine RW.opd rfl rfl (LO.move rfl rfl) ?_
        refine RW.split (t := 21) rfl (fun hb46 => ?_) (fun hb46 => ?_)
        ·
          try (have hb46p := of_decide_eq_true hb46)
          try (have hb46q := eq_of_beq hb46)
          refine RW.sd rfl rfl rfl hb46 rfl ?_
          refine RW.sd rfl rfl rfl hb46 rfl ?_
          refine RW.sd rfl rfl rfl hb46 rfl ?_
          refine RW.sd rfl rfl rfl hb46 rfl ?_
          refine RW.ud rfl rfl rfl rfl ?_
          refine RW.ud rfl rfl rfl rfl ?_
          refine RW.ud rfl rfl rfl rfl ?_
          refine RW.sd rfl rfl rfl hb46 rfl ?_
          refine RW.opd rfl rfl (LO.pick_t rfl rfl hb46 rfl) ?_
          refine RW.opd rfl rfl (LO.move rfl rfl) ?_
          refine RW.sd rfl rfl rfl rfl rfl ?_
          refine RW.sd rfl rfl rfl rfl rfl ?_
          refine RW.sd rfl rfl rfl rfl rfl ?_
          refine RW.sd rfl rfl rfl rfl rfl ?_
          refine RW.ud rfl rfl rfl rfl ?_
          refine RW.ud rfl rfl rfl rfl ?_
          refine RW.ud rfl rfl rfl rfl ?_
          refine RW.ud rfl rfl rfl rfl ?_
          refine RW.sd rfl rfl rfl rfl rfl ?_
          refine RW.opd rfl rfl (LO.pick_t rfl rfl rfl rfl) ?_
          refine RW.nil ?_
          repeat (refine W.seq ?_)
          refine W.cond_t rfl rfl ?_
          repeat (refine W.seq ?_)
          refine W.region 49 50 (by decide) rfl rfl ?_
          refine RW.opd rfl rfl (LO.assign rfl rfl) ?_
          refine RW.nil ?_
          repeat (refine W.seq ?_)
          refine W.ret ⟨.inl rfl, _, mt, RVs.cons (RV.tmp rfl) (RVs.nil), all_mt, ?_⟩
          exact ⟨by (simp_all [validN, retOf]) <;> (first | omega | (rw [Bool.eq_iff_iff]; simp only [Bool.and_eq_true, Bool.or_eq_true, decide_eq_true_eq, beq_iff_eq]; omega)), rfl⟩
        ·
          try (have hb46p := of_decide_eq_false hb46)
          try (have hb46q := ne_of_beq_false hb46)
          refine RW.gd rfl rfl rfl hb46 rfl (LO.fieldAddr rfl rfl ty52 rfl (by decide)) ?_
          refine RW.gd rfl rfl rfl hb46 rfl (LO.load rfl rfl rfl rfl ty3 rfl) ?_
          refine RW.gd rfl rfl rfl hb46 rfl (LO.gtr rfl rfl rfl) ?_
          refine RW.gd rfl rfl rfl hb46 rfl (LO.move rfl rfl) ?_
          refine RW.split (t := 25) rfl (fun hb47 => ?_) (fun hb47 => ?_)
          ·
            try (have hb47p := of_decide_eq_true hb47)
            try (have hb47q := eq_of_beq hb47)
            refine RW.gd rfl rfl rfl hb47 rfl (LO.fieldAddr rfl rfl ty52 rfl (by decide)) ?_
            refine RW.gd rfl rfl rfl hb47 rfl (LO.load rfl rfl rfl rfl ty3 rfl) ?_
            refine RW.gd rfl rfl rfl hb47 rfl (LO.neq rfl rfl rfl) ?_
            refine RW.gd rfl rfl rfl hb46 rfl (LO.pick_t rfl rfl hb47 rfl) ?_
            refine RW.opd rfl rfl (LO.pick_f rfl rfl hb46 rfl) ?_
            refine RW.opd rfl rfl (LO.move rfl rfl) ?_
            refine RW.split (t := 31) rfl (fun hb48 => ?_) (fun hb48 => ?_)
            ·
              try (have hb48p := of_decide_eq_true hb48)
              try (have hb48q := eq_of_beq hb48)
              refine RW.sd rfl rfl rfl hb48 rfl ?_
              refine RW.sd rfl rfl rfl hb48 rfl ?_
              refine RW.sd rfl rfl rfl hb48 rfl ?_
              refine RW.sd rfl rfl rfl hb48 rfl ?_
              refine RW.ud rfl rfl rfl rfl ?_
              refine RW.ud rfl rfl rfl rfl ?_
              refine RW.ud rfl rfl rfl rfl ?_
              refine RW.ud rfl rfl rfl rfl ?_
              refine RW.sd rfl rfl rfl hb48 rfl ?_
              refine RW.opd rfl rfl (LO.pick_t rfl rfl hb48 rfl) ?_
              refine RW.nil ?_
              repeat (refine W.seq ?_)
              refine W.cond_t rfl rfl ?_
              repeat (refine W.seq ?_)
              refine W.region 49 50 (by decide) rfl rfl ?_
              refine RW.opd rfl rfl (LO.assign rfl rfl) ?_
              refine RW.nil ?_
              repeat (refine W.seq ?_)
              refine W.ret ⟨.inl rfl, _, mt, RVs.cons (RV.tmp rfl) (RVs.nil), all_mt, ?_⟩
              exact ⟨by (simp_all [validN, retOf]) <;> (first | omega | (rw [Bool.eq_iff_iff]; simp only [Bool.and_eq_true, Bool.or_eq_true, decide_eq_true_eq, beq_iff_eq]; omega)), rfl⟩
            ·
              try (have hb48p := of_decide_eq_false hb48)
              try (have hb48q := ne_of_beq_false hb48)
              refine RW.gd rfl rfl rfl hb48 rfl (LO.fieldAddr rfl rfl ty52 rfl (by decide)) ?_
              refine RW.gd rfl rfl rfl hb48 rfl (LO.load rfl rfl rfl rfl ty4 rfl) ?_
              refine RW.gd rfl rfl rfl hb48 rfl (LO.not rfl rfl) ?_
              refine RW.gd rfl rfl rfl hb48 rfl (LO.move rfl rfl) ?_
              refine RW.split (t := 35) rfl (fun hb49 => ?_) (fun hb49 => ?_)
              ·
                try (have hb49p := of_decide_eq_true hb49)
                try (have hb49q := eq_of_beq hb49)
                refine RW.gd rfl rfl rfl hb49 rfl (LO.fieldAddr rfl rfl ty52 rfl (by decide)) ?_
                refine RW.gd rfl rfl rfl hb49 rfl (LO.load_agg rfl rfl rfl ty50 rfl (nb_tkM hl)) ?_
                refine RW.gd rfl rfl rfl hb49 rfl (LO.build_ar rfl ty50 ty5 .nil) ?_
                refine RW.gd rfl rfl rfl hb49 rfl (LO.neq_mac n.ln zMac hl rfl rfl rfl rfl) ?_
                refine RW.gd rfl rfl rfl hb48 rfl (LO.pick_t rfl rfl hb49 rfl) ?_
                refine RW.opd rfl rfl (LO.pick_f rfl rfl hb48 rfl) ?_
                refine RW.nil ?_
                repeat (refine W.seq ?_)
                refine W.cond rfl (fun hb50 => ?_) (fun hb50 => ?_)
                ·
                  try (have hb50p := of_decide_eq_true hb50)
                  try (have hb50q := eq_of_beq hb50)
                  repeat (refine W.seq ?_)
                  refine W.region 49 50 (by decide) rfl rfl ?_
                  refine RW.opd rfl rfl (LO.assign rfl rfl) ?_
                  refine RW.nil ?_
                  repeat (refine W.seq ?_)
                  refine W.ret ⟨.inl rfl, _, mt, RVs.cons (RV.tmp rfl) (RVs.nil), all_mt, ?_⟩
                  exact ⟨by (simp_all [validN, retOf]) <;> (first | omega | (rw [Bool.eq_iff_iff]; simp only [Bool.and_eq_true, Bool.or_eq_true, decide_eq_true_eq, beq_iff_eq]; omega)), rfl⟩
                ·
                  try (have hb50p := of_decide_eq_false hb50)
                  try (have hb50q := ne_of_beq_false hb50)
                  repeat (refine W.seq ?_)
                  refine W.skip ?_
                  repeat (refine W.seq ?_)
                  refine W.region 54 57 (by decide) rfl rfl ?_
                  refine RW.opd rfl rfl (LO.fieldAddr rfl rfl ty52 rfl (by decide)) ?_
                  refine RW.opd rfl rfl (LO.load rfl rfl rfl rfl ty3 rfl) ?_
                  refine RW.opd rfl rfl (LO.call0 (fr := []) rfl rfl (htg _) fok51 (.cons rfl (.pure rfl) .nil) rfl) ?_
                  refine RW.nil ?_
                  repeat (refine W.seq ?_)
                  refine W.cond rfl (fun hb51 => ?_) (fun hb51 => ?_)
                  ·
                    try (have hb51p := of_decide_eq_true hb51)
                    try (have hb51q := eq_of_beq hb51)
                    repeat (refine W.seq ?_)
                    refine W.region 61 71 (by decide) rfl rfl ?_
                    refine RW.opd rfl rfl (LO.fieldAddr rfl rfl ty52 rfl (by decide)) ?_
                    refine RW.opd rfl rfl (LO.fieldAddr rfl rfl ty24 rfl (by decide)) ?_
                    refine RW.opd rfl rfl (LO.load rfl rfl rfl rfl ty4 rfl) ?_
                    refine RW.opd rfl rfl (LO.move rfl rfl) ?_
                    refine RW.split (t := 48) rfl (fun hb52 => ?_) (fun hb52 => ?_)
                    ·
                      try (have hb52p := of_decide_eq_true hb52)
                      try (have hb52q := eq_of_beq hb52)
                      refine RW.gd rfl rfl rfl hb52 rfl (LO.fieldAddr rfl rfl ty52 rfl (by decide)) ?_
                      refine RW.gd rfl rfl rfl hb52 rfl (LO.load_agg rfl rfl rfl ty24 rfl (Tk.lit rfl)) ?_
                      refine RW.gd rfl rfl rfl hb52 rfl (LO.call0 (fr := []) rfl rfl (hgr _) fok56 (.cons rfl (.pure rfl) .nil) rfl) ?_
                      refine RW.gd rfl rfl rfl hb52 rfl (LO.not rfl rfl) ?_
                      refine RW.opd rfl rfl (LO.pick_t rfl rfl hb52 rfl) ?_
                      refine RW.opd rfl rfl (LO.assign rfl rfl) ?_
                      refine RW.nil ?_
                      repeat (refine W.seq ?_)
                      refine W.ret ⟨.inl rfl, _, mt, RVs.cons (RV.tmp rfl) (RVs.nil), all_mt, ?_⟩
                      exact ⟨by (simp_all [validN, retOf]) <;> (first | omega | (rw [Bool.eq_iff_iff]; simp only [Bool.and_eq_true, Bool.or_eq_true, decide_eq_true_eq, beq_iff_eq]; omega)), rfl⟩
                    ·
                      try (have hb52p := of_decide_eq_false hb52)
                      try (have hb52q := ne_of_beq_false hb52)
                      refine RW.sd rfl rfl rfl hb52 rfl ?_
                      refine RW.sd rfl rfl rfl hb52 rfl ?_
                      refine RW.sd rfl rfl rfl hb52 rfl ?_
                      refine RW.sd rfl rfl rfl hb52 rfl ?_
                      refine RW.opd rfl rfl (LO.pick_f rfl rfl hb52 rfl) ?_
                      refine RW.opd rfl rfl (LO.assign rfl rfl) ?_
                      refine RW.nil ?_
                      repeat (refine W.seq ?_)
                      refine W.ret ⟨.inl rfl, _, mt, RVs.cons (RV.tmp rfl) (RVs.nil), all_mt, ?_⟩
                      exact ⟨by (simp_all [validN, retOf]) <;> (first | omega | (rw [Bool.eq_iff_iff]; simp only [Bool.and_eq_true, Bool.or_eq_true, decide_eq_true_eq, beq_iff_eq]; omega)), rfl⟩
                  ·
                    try (have hb51p := of_decide_eq_false hb51)
                    try (have hb51q := ne_of_beq_false hb51)
                    repeat (refine W.seq ?_)
                    refine W.skip ?_
                    repeat (refine W.seq ?_)
                    refine W.region 75 80 (by decide) rfl rfl ?_
                    refine RW.opd rfl rfl (LO.fieldAddr rfl rfl ty52 rfl (by decide)) ?_
                    refine RW.opd rfl rfl (LO.load_agg rfl rfl rfl ty24 rfl (Tk.lit rfl)) ?_
                    refine RW.opd rfl rfl (LO.build_st rfl ty24 .nil) ?_
                    refine RW.opd rfl rfl (LO.eql_ad n.tg zAd rfl rfl rfl) ?_
                    refine RW.opd rfl rfl (LO.assign rfl rfl) ?_
                    refine RW.nil ?_
                    repeat (refine W.seq ?_)
                    refine W.ret ⟨.inl rfl, _, mt, RVs.cons (RV.tmp rfl) (RVs.nil), all_mt, ?_⟩
                    exact ⟨by (simp_all [validN, retOf]) <;> (first | omega | (rw [Bool.eq_iff_iff]; simp only [Bool.and_eq_true, Bool.or_eq_true, decide_eq_true_eq, beq_iff_eq]; omega)), rfl⟩
              ·
                try (have hb49p := of_decide_eq_false hb49)
                try (have hb49q := ne_of_beq_false hb49)
                refine RW.sd rfl rfl rfl hb49 rfl ?_
                refine RW.sd rfl rfl rfl hb49 rfl ?_
                refine RW.sd rfl rfl rfl hb49 rfl ?_
                refine RW.sd rfl rfl rfl hb49 rfl ?_
                refine RW.gd rfl rfl rfl hb48 rfl (LO.pick_f rfl rfl hb49 rfl) ?_
                refine RW.opd rfl rfl (LO.pick_f rfl rfl hb48 rfl) ?_
                refine RW.nil ?_
                repeat (refine W.seq ?_)
                refine W.cond_f rfl rfl ?_
                repeat (refine W.seq ?_)
                refine W.skip ?_
                repeat (refine W.seq ?_)
                refine W.region 54 57 (by decide) rfl rfl ?_
                refine RW.opd rfl rfl (LO.fieldAddr rfl rfl ty52 rfl (by decide)) ?_
                refine RW.opd rfl rfl (LO.load rfl rfl rfl rfl ty3 rfl) ?_
                refine RW.opd rfl rfl (LO.call0 (fr := []) rfl rfl (htg _) fok51 (.cons rfl (.pure rfl) .nil) rfl) ?_
                refine RW.nil ?_
                repeat (refine W.seq ?_)
                refine W.cond rfl (fun hb53 => ?_) (fun hb53 => ?_)
                ·
                  try (have hb53p := of_decide_eq_true hb53)
                  try (have hb53q := eq_of_beq hb53)
                  repeat (refine W.seq ?_)
                  refine W.region 61 71 (by decide) rfl rfl ?_
                  refine RW.opd rfl rfl (LO.fieldAddr rfl rfl ty52 rfl (by decide)) ?_
                  refine RW.opd rfl rfl (LO.fieldAddr rfl rfl ty24 rfl (by decide)) ?_
                  refine RW.opd rfl rfl (LO.load rfl rfl rfl rfl ty4 rfl) ?_
                  refine RW.opd rfl rfl (LO.move rfl rfl) ?_
                  refine RW.split (t := 48) rfl (fun hb54 => ?_) (fun hb54 => ?_)
                  ·
                    try (have hb54p := of_decide_eq_true hb54)
                    try (have hb54q := eq_of_beq hb54)
                    refine RW.gd rfl rfl rfl hb54 rfl (LO.fieldAddr rfl rfl ty52 rfl (by decide)) ?_
                    refine RW.gd rfl rfl rfl hb54 rfl (LO.load_agg rfl rfl rfl ty24 rfl (Tk.lit rfl)) ?_
                    refine RW.gd rfl rfl rfl hb54 rfl (LO.call0 (fr := []) rfl rfl (hgr _) fok56 (.cons rfl (.pure rfl) .nil) rfl) ?_
                    refine RW.gd rfl rfl rfl hb54 rfl (LO.not rfl rfl) ?_
                    refine RW.opd rfl rfl (LO.pick_t rfl rfl hb54 rfl) ?_
                    refine RW.opd rfl rfl (LO.assign rfl rfl) ?_
                    refine RW.nil ?_
                    repeat (refine W.seq ?_)
                    refine W.ret ⟨.inl rfl, _, mt, RVs.cons (RV.tmp rfl) (RVs.nil), all_mt, ?_⟩
                    exact ⟨by (simp_all [validN, retOf]) <;> (first | omega | (rw [Bool.eq_iff_iff]; simp only [Bool.and_eq_true, Bool.or_eq_true, decide_eq_true_eq, beq_iff_eq]; omega)), rfl⟩
                  ·
                    try (have hb54p := of_decide_eq_false hb54)
                    try (have hb54q := ne_of_beq_false hb54)
                    refine RW.sd rfl rfl rfl hb54 rfl ?_
                    refine RW.sd rfl rfl rfl hb54 rfl ?_
                    refine RW.sd rfl rfl rfl hb54 rfl ?_
                    refine RW.sd rfl rfl rfl hb54 rfl ?_
                    refine RW.opd rfl rfl (LO.pick_f rfl rfl hb54 rfl) ?_
                    refine RW.opd rfl rfl (LO.assign rfl rfl) ?_
                    refine RW.nil ?_
                    repeat (refine W.seq ?_)
                    refine W.ret ⟨.inl rfl, _, mt, RVs.cons (RV.tmp rfl) (RVs.nil), all_mt, ?_⟩
                    exact ⟨by (simp_all [validN, retOf]) <;> (first | omega | (rw [Bool.eq_iff_iff]; simp only [Bool.and_eq_true, Bool.or_eq_true, decide_eq_true_eq, beq_iff_eq]; omega)), rfl⟩
                ·
                  try (have hb53p := of_decide_eq_false hb53)
                  try (have hb53q := ne_of_beq_false hb53)
                  repeat (refine W.seq ?_)
                  refine W.skip ?_
                  repeat (refine W.seq ?_)
                  refine W.region 75 80 (by decide) rfl rfl ?_
                  refine RW.opd rfl rfl (LO.fieldAddr rfl rfl ty52 rfl (by decide)) ?_
                  refine RW.opd rfl rfl (LO.load_agg rfl rfl rfl ty24 rfl (Tk.lit rfl)) ?_
                  refine RW.opd rfl rfl (LO.build_st rfl ty24 .nil) ?_
                  refine RW.opd rfl rfl (LO.eql_ad n.tg zAd rfl rfl rfl) ?_
                  refine RW.opd rfl rfl (LO.assign rfl rfl) ?_
                  refine RW.nil ?_
                  repeat (refine W.seq ?_)
                  refine W.ret ⟨.inl rfl, _, mt, RVs.cons (RV.tmp rfl) (RVs.nil), all_mt, ?_⟩
                  exact ⟨by (simp_all [validN, retOf]) <;> (first | omega | (rw [Bool.eq_iff_iff]; simp only [Bool.and_eq_true, Bool.or_eq_true, decide_eq_true_eq, beq_iff_eq]; omega)), rfl⟩
          ·
            try (have hb47p := of_decide_eq_false hb47)
            try (have hb47q := ne_of_beq_false hb47)
            refine RW.sd rfl rfl rfl hb47 rfl ?_
            refine RW.sd rfl rfl rfl hb47 rfl ?_
            refine RW.sd rfl rfl rfl hb47 rfl ?_
            refine RW.gd rfl rfl rfl hb46 rfl (LO.pick_f rfl rfl hb47 rfl) ?_
            refine RW.opd rfl rfl (LO.pick_f rfl rfl hb46 rfl) ?_
            refine RW.opd rfl rfl (LO.move rfl rfl) ?_
            refine RW.gd rfl rfl rfl rfl rfl (LO.fieldAddr rfl rfl ty52 rfl (by decide)) ?_
            refine RW.gd rfl rfl rfl rfl rfl (LO.load rfl rfl rfl rfl ty4 rfl) ?_
            refine RW.gd rfl rfl rfl rfl rfl (LO.not rfl rfl) ?_
            refine RW.gd rfl rfl rfl rfl rfl (LO.move rfl rfl) ?_
            refine RW.split (t := 35) rfl (fun hb55 => ?_) (fun hb55 => ?_)
            ·
              try (have hb55p := of_decide_eq_true hb55)
              try (have hb55q := eq_of_beq hb55)
              refine RW.gd rfl rfl rfl hb55 rfl (LO.fieldAddr rfl rfl ty52 rfl (by decide)) ?_
              refine RW.gd rfl rfl rfl hb55 rfl (LO.load_agg rfl rfl rfl ty50 rfl (nb_tkM hl)) ?_
              refine RW.gd rfl rfl rfl hb55 rfl (LO.build_ar rfl ty50 ty5 .nil) ?_
              refine RW.gd rfl rfl rfl hb55 rfl (LO.neq_mac n.ln zMac hl rfl rfl rfl rfl) ?_
              refine RW.gd rfl rfl rfl rfl rfl (LO.pick_t rfl rfl hb55 rfl) ?_
              refine RW.opd rfl rfl (LO.pick_f rfl rfl rfl rfl) ?_
              refine RW.nil ?_
              repeat (refine W.seq ?_)
              refine W.cond rfl (fun hb56 => ?_) (fun hb56 => ?_)
              ·
                try (have hb56p := of_decide_eq_true hb56)
                try (have hb56q := eq_of_beq hb56)
                repeat (refine W.seq ?_)
                refine W.region 49 50 (by decide) rfl rfl ?_
                refine RW.opd rfl rfl (LO.assign rfl rfl) ?_
                refine RW.nil ?_
                repeat (refine W.seq ?_)
                refine W.ret ⟨.inl rfl, _, mt, RVs.cons (RV.tmp rfl) (RVs.nil), all_mt, ?_⟩
                exact ⟨by (simp_all [validN, retOf]) <;> (first | omega | (rw [Bool.eq_iff_iff]; simp only [Bool.and_eq_true, Bool.or_eq_true, decide_eq_true_eq, beq_iff_eq]; omega)), rfl⟩
              ·
                try (have hb56p := of_decide_eq_false hb56)
                try (have hb56q := ne_of_beq_false hb56)
                repeat (refine W.seq ?_)
                refine W.skip ?_
                repeat (refine W.seq ?_)
                refine W.region 54 57 (by decide) rfl rfl ?_
                refine RW.opd rfl rfl (LO.fieldAddr rfl rfl ty52 rfl (by decide)) ?_
                refine RW.opd rfl rfl (LO.load rfl rfl rfl rfl ty3 rfl) ?_
                refine RW.opd rfl rfl (LO.call0 (fr := []) rfl rfl (htg _) fok51 (.cons rfl (.pure rfl) .nil) rfl) ?_
                refine RW.nil ?_
                repeat (refine W.seq ?_)
                refine W.cond rfl (fun hb57 => ?_) (fun hb57 => ?_)
                ·
                  try (have hb57p := of_decide_eq_true hb57)
                  try (have hb57q := eq_of_beq hb57)
                  repeat (refine W.seq ?_)
                  refine W.region 61 71 (by decide) rfl rfl ?_
                  refine RW.opd rfl rfl (LO.fieldAddr rfl rfl ty52 rfl (by decide)) ?_
                  refine RW.opd rfl rfl (LO.fieldAddr rfl rfl ty24 rfl (by decide)) ?_
                  refine RW.opd rfl rfl (LO.load rfl rfl rfl rfl ty4 rfl) ?_
                  refine RW.opd rfl rfl (LO.move rfl rfl) ?_
                  refine RW.split (t := 48) rfl (fun hb58 => ?_) (fun hb58 => ?_)
                  ·
                    try (have hb58p := of_decide_eq_true hb58)
                    try (have hb58q := eq_of_beq hb58)
                    refine RW.gd rfl rfl rfl hb58 rfl (LO.fieldAddr rfl rfl ty52 rfl (by decide)) ?_
                    refine RW.gd rfl rfl rfl hb58 rfl (LO.load_agg rfl rfl rfl ty24 rfl (Tk.lit rfl)) ?_
                    refine RW.gd rfl rfl rfl hb58 rfl (LO.call0 (fr := []) rfl rfl (hgr _) fok56 (.cons rfl (.pure rfl) .nil) rfl) ?_
                    refine RW.gd rfl rfl rfl hb58 rfl (LO.not rfl rfl) ?_
                    refine RW.opd rfl rfl (LO.pick_t rfl rfl hb58 rfl) ?_
                    refine RW.opd rfl rfl (LO.assign rfl rfl) ?_
                    refine RW.nil ?_
                    repeat (refine W.seq ?_)
                    refine W.ret ⟨.inl rfl, _, mt, RVs.cons (RV.tmp rfl) (RVs.nil), all_mt, ?_⟩
                    exact ⟨by (simp_all [validN, retOf]) <;> (first | omega | (rw [Bool.eq_iff_iff]; simp only [Bool.and_eq_true, Bool.or_eq_true, decide_eq_true_eq, beq_iff_eq]; omega)), rfl⟩
                  ·
                    try (have hb58p := of_decide_eq_false hb58)
                    try (have hb58q := ne_of_beq_false hb58)
                    refine RW.sd rfl rfl rfl hb58 rfl ?_
                    refine RW.sd rfl rfl rfl hb58 rfl ?_
                    refine RW.sd rfl rfl rfl hb58 rfl ?_
                    refine RW.sd rfl rfl rfl hb58 rfl ?_
                    refine RW.opd rfl rfl (LO.pick_f rfl rfl hb58 rfl) ?_
                    refine RW.opd rfl rfl (LO.assign rfl rfl) ?_
                    refine RW.nil ?_
                    repeat (refine W.seq ?_)
                    refine W.ret ⟨.inl rfl, _, mt, RVs.cons (RV.tmp rfl) (RVs.nil), all_mt, ?_⟩
                    exact ⟨by (simp_all [validN, retOf]) <;> (first | omega | (rw [Bool.eq_iff_iff]; simp only [Bool.and_eq_true, Bool.or_eq_true, decide_eq_true_eq, beq_iff_eq]; omega)), rfl⟩
                ·
                  try (have hb57p := of_decide_eq_false hb57)
                  try (have hb57q := ne_of_beq_false hb57)
                  repeat (refine W.seq ?_)
                  refine W.skip ?_
                  repeat (refine W.seq ?_)
                  refine W.region 75 80 (by decide) rfl rfl ?_
                  refine RW.opd rfl rfl (LO.fieldAddr rfl rfl ty52 rfl (by decide)) ?_
                  refine RW.opd rfl rfl (LO.load_agg rfl rfl rfl ty24 rfl (Tk.lit rfl)) ?_
                  refine RW.opd rfl rfl (LO.build_st rfl ty24 .nil) ?_
                  refine RW.opd rfl rfl (LO.eql_ad n.tg zAd rfl rfl rfl) ?_
                  refine RW.opd rfl rfl (LO.assign rfl rfl) ?_
                  refine RW.nil ?_
                  repeat (refine W.seq ?_)
                  refine W.ret ⟨.inl rfl, _, mt, RVs.cons (RV.tmp rfl) (RVs.nil), all_mt, ?_⟩
                  exact ⟨by (simp_all [validN, retOf]) <;> (first | omega | (rw [Bool.eq_iff_iff]; simp only [Bool.and_eq_true, Bool.or_eq_true, decide_eq_true_eq, beq_iff_eq]; omega)), rfl⟩
            ·
              try (have hb55p := of_decide_eq_false hb55)
              try (have hb55q := ne_of_beq_false hb55)
              refine RW.sd rfl rfl rfl hb55 rfl ?_
              refine RW.sd rfl rfl rfl hb55 rfl ?_
              refine RW.sd rfl rfl rfl hb55 rfl ?_
              refine RW.sd rfl rfl rfl hb55 rfl ?_
              refine RW.gd rfl rfl rfl rfl rfl (LO.pick_f rfl rfl hb55 rfl) ?_
              refine RW.opd rfl rfl (LO.pick_f rfl rfl rfl rfl) ?_
              refine RW.nil ?_
              repeat (refine W.seq ?_)
              refine W.cond_f rfl rfl ?_
              repeat (refine W.seq ?_)
              refine W.skip ?_
              repeat (refine W.seq ?_)
              refine W.region 54 57 (by decide) rfl rfl ?_
              refine RW.opd rfl rfl (LO.fieldAddr rfl rfl ty52 rfl (by decide)) ?_
              refine RW.opd rfl rfl (LO.load rfl rfl rfl rfl ty3 rfl) ?_
              refine RW.opd rfl rfl (LO.call0 (fr := []) rfl rfl (htg _) fok51 (.cons rfl (.pure rfl) .nil) rfl) ?_
              refine RW.nil ?_
              repeat (refine W.seq ?_)
              refine W.cond rfl (fun hb59 => ?_) (fun hb59 => ?_)
              ·
                try (have hb59p := of_decide_eq_true hb59)
                try (have hb59q := eq_of_beq hb59)
                repeat (refine W.seq ?_)
                refine W.region 61 71 (by decide) rfl rfl ?_
                refine RW.opd rfl rfl (LO.fieldAddr rfl rfl ty52 rfl (by decide)) ?_
                refine RW.opd rfl rfl (LO.fieldAddr rfl rfl ty24 rfl (by decide)) ?_
                refine RW.opd rfl rfl (LO.load rfl rfl rfl rfl ty4 rfl) ?_
                refine RW.opd rfl rfl (LO.move rfl rfl) ?_
                refine RW.split (t := 48) rfl (fun hb60 => ?_) (fun hb60 => ?_)
                ·
                  try (have hb60p := of_decide_eq_true hb60)
                  try (have hb60q := eq_of_beq hb60)
                  refine RW.gd rfl rfl rfl hb60 rfl (LO.fieldAddr rfl rfl ty52 rfl (by decide)) ?_
                  refine RW.gd rfl rfl rfl hb60 rfl (LO.load_agg rfl rfl rfl ty24 rfl (Tk.lit rfl)) ?_
                  refine RW.gd rfl rfl rfl hb60 rfl (LO.call0 (fr := []) rfl rfl (hgr _) fok56 (.cons rfl (.pure rfl) .nil) rfl) ?_
                  refine RW.gd rfl rfl rfl hb60 rfl (LO.not rfl rfl) ?_
                  refine RW.opd rfl rfl (LO.pick_t rfl rfl hb60 rfl) ?_
                  refine RW.opd rfl rfl (LO.assign rfl rfl) ?_
                  refine RW.nil ?_
                  repeat (refine W.seq ?_)
                  refine W.ret ⟨.inl rfl, _, mt, RVs.cons (RV.tmp rfl) (RVs.nil), all_mt, ?_⟩
                  exact ⟨by (simp_all [validN, retOf]) <;> (first | omega | (rw [Bool.eq_iff_iff]; simp only [Bool.and_eq_true, Bool.or_eq_true, decide_eq_true_eq, beq_iff_eq]; omega)), rfl⟩
                ·
                  try (have hb60p := of_decide_eq_false hb60)
                  try (have hb60q := ne_of_beq_false hb60)
                  refine RW.sd rfl rfl rfl hb60 rfl ?_
                  refine RW.sd rfl rfl rfl hb60 rfl ?_
                  refine RW.sd rfl rfl rfl hb60 rfl ?_
                  refine RW.sd rfl rfl rfl hb60 rfl ?_
                  refine RW.opd rfl rfl (LO.pick_f rfl rfl hb60 rfl) ?_
                  refine RW.opd rfl rfl (LO.assign rfl rfl) ?_
                  refine RW.nil ?_
                  repeat (refine W.seq ?_)
                  refine W.ret ⟨.inl rfl, _, mt, RVs.cons (RV.tmp rfl) (RVs.nil), all_mt, ?_⟩
                  exact ⟨by (simp_all [validN, retOf]) <;> (first | omega | (rw [Bool.eq_iff_iff]; simp only [Bool.and_eq_true, Bool.or_eq_true, decide_eq_true_eq, beq_iff_eq]; omega)), rfl⟩
              ·
                try (have hb59p := of_decide_eq_false hb59)
                try (have hb59q := ne_of_beq_false hb59)
                repeat (refine W.seq ?_)
                refine W.skip ?_
                repeat (refine W.seq ?_)
                refine W.region 75 80 (by decide) rfl rfl ?_
                refine RW.opd rfl rfl (LO.fieldAddr rfl rfl ty52 rfl (by decide)) ?_
                refine RW.opd rfl rfl (LO.load_agg rfl rfl rfl ty24 rfl (Tk.lit rfl)) ?_
                refine RW.opd rfl rfl (LO.build_st rfl ty24 .nil) ?_
                refine RW.opd rfl rfl (LO.eql_ad n.tg zAd rfl rfl rfl) ?_
                refine RW.opd rfl rfl (LO.assign rfl rfl) ?_
                refine RW.nil ?_
                repeat (refine W.seq ?_)
                refine W.ret ⟨.inl rfl, _, mt, RVs.cons (RV.tmp rfl) (RVs.nil), all_mt, ?_⟩
                exact ⟨by (simp_all [validN, retOf]) <;> (first | omega | (rw [Bool.eq_iff_iff]; simp only [Bool.and_eq_true, Bool.or_eq_true, decide_eq_true_eq, beq_iff_eq]; omega)), rfl⟩
end Go.Proofs.Ytoijkcnefnmbjaa
