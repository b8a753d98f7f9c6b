/-
  Which messages are valid: both texts.
-/
import Derived.Test.YtcidmiacfjdepaaGreatDoorQc
import Derived.Test.YtcidmiacfjdepaaGreatDoorMab
namespace Go.Proofs.YtcidmiacfjdepaaGreatDoor
open Go.RowKit
def zAd:Ad:=⟨false,0,0⟩
def zMac:List Int:=[0,0,0,0,0,0]
def validN (n:Nb):Bool:=decide (133≤n.k) && (decide (n.k≤137) && (decide (0≤n.fl) && (decide (n.fl≤7) && ((n.fl == 0 || n.k == 136) && ((n.has || decide (n.ln=zMac)) && (if targB n.k then n.tg.v6 && !grpA n.tg else eqA n.tg zAd))))))
theorem nb_tkM {n:Nb} (h:n.ln.length=6):Tk (nbC n) (0 + 6) 6 (bytesC n.ln):=by
  refine ⟨by rw [bytesC_len,h],fun j c hj=>?_⟩
  unfold nbC
  have e:([AV.base (.int .i64 n.k),AV.base (.int .i64 n.fl)]++adC n.tg++[AV.base (.bool n.has)]).length=6:=by simp [adC]
  rw [List.getElem?_append_right (by omega),e]
  rw [show 0 + 6 + j - 6=j from by omega]
  exact hj
theorem nb_tkA (n:Nb):Tk (nbC n) (0 + 2) 3 (adC n.tg):=⟨rfl,fun j c hj=>by
  match j with
  | 0=>exact hj
  | 1=>exact hj
  | 2=>exact hj
  | j + 3=>simp [adC] at hj⟩
set_option maxHeartbeats 1000000 in
theorem nvalidX_any (n:Nb) (hl:n.ln.length=6):AFn Tryz.prog 101 0 [.agg (nbC n)] mt (.base (.bool (validN n))) mt:=by
  refine AFn.eq Tryz.func101 rfl rfl (Nat.le_of_ble_eq_true rfl) ?_
  have htg:=targetedX_any
  have hgr:=groupX_any
  refine Wq (qW 0 2 rfl rfl rfl (qC rfl rfl rfl (qA rfl rfl (Nl (Wq (Wq (qW 6 45 rfl rfl rfl (qF rfl rfl ty78 rfl rfl (qL rfl rfl rfl rfl ty3 rfl (qK rfl rfl rfl (qM rfl rfl (RW.split (t:=6) rfl (fun hb1=>?_) (fun hb1=>?_)))))))))))))
  ·
    try (have hb1p:=of_decide_eq_true hb1)
    try (have hb1q:=eq_of_beq hb1)
    refine Sd rfl rfl rfl hb1 rfl (Sd rfl rfl rfl hb1 rfl (Sd rfl rfl rfl hb1 rfl (qT rfl rfl hb1 rfl (qM rfl rfl (Sd rfl rfl rfl rfl rfl (Sd rfl rfl rfl rfl rfl (Sd rfl rfl rfl rfl rfl (qT rfl rfl rfl rfl (qM rfl rfl (Sd rfl rfl rfl rfl rfl (Sd rfl rfl rfl rfl rfl (Sd rfl rfl rfl rfl rfl (qT rfl rfl rfl rfl (qM rfl rfl (Sd rfl rfl rfl rfl rfl (Sd rfl rfl rfl rfl rfl (Sd rfl rfl rfl rfl rfl (Sd rfl rfl rfl rfl rfl (Ud rfl rfl rfl rfl (Ud rfl rfl rfl rfl (Ud rfl rfl rfl rfl (Sd rfl rfl rfl rfl rfl (qT rfl rfl rfl rfl (qM rfl rfl (Sd rfl rfl rfl rfl rfl (Sd rfl rfl rfl rfl rfl (Sd rfl rfl rfl rfl rfl (Sd rfl rfl rfl rfl rfl (Ud rfl rfl rfl rfl (Ud rfl rfl rfl rfl (Ud rfl rfl rfl rfl (Ud rfl rfl rfl rfl (Sd rfl rfl rfl rfl rfl (qT rfl rfl rfl rfl (Nl (Wt rfl rfl (Wq (qW 49 50 rfl rfl rfl (qA rfl rfl (Nl (Wz ⟨.inl rfl,_,mt,Rc (Rt rfl) (Rn),all_mt,?_⟩)))))))))))))))))))))))))))))))))))))))))
    exact ⟨by (simp_all [validN,retOf])<;>(first|omega|(rw [Bool.eq_iff_iff];simp only [Bool.and_eq_true,Bool.or_eq_true,decide_eq_true_eq,beq_iff_eq];omega)),rfl⟩
  ·
    try (have hb1p:=of_decide_eq_false hb1)
    try (have hb1q:=ne_of_beq_false hb1)
    refine Gd rfl rfl rfl hb1 rfl (Fa rfl rfl ty78 rfl (by decide)) (Gd rfl rfl rfl hb1 rfl (Ld rfl rfl rfl rfl ty3 rfl) (Gd rfl rfl rfl hb1 rfl (Gt0 rfl rfl rfl) (qP rfl rfl hb1 rfl (qM rfl rfl (RW.split (t:=11) rfl (fun hb2=>?_) (fun hb2=>?_))))))
    ·
      try (have hb2p:=of_decide_eq_true hb2)
      try (have hb2q:=eq_of_beq hb2)
      refine Sd rfl rfl rfl hb2 rfl (Sd rfl rfl rfl hb2 rfl (Sd rfl rfl rfl hb2 rfl (qT rfl rfl hb2 rfl (qM rfl rfl (Sd rfl rfl rfl rfl rfl (Sd rfl rfl rfl rfl rfl (Sd rfl rfl rfl rfl rfl (qT rfl rfl rfl rfl (qM rfl rfl (Sd rfl rfl rfl rfl rfl (Sd rfl rfl rfl rfl rfl (Sd rfl rfl rfl rfl rfl (Sd rfl rfl rfl rfl rfl (Ud rfl rfl rfl rfl (Ud rfl rfl rfl rfl (Ud rfl rfl rfl rfl (Sd rfl rfl rfl rfl rfl (qT rfl rfl rfl rfl (qM rfl rfl (Sd rfl rfl rfl rfl rfl (Sd rfl rfl rfl rfl rfl (Sd rfl rfl rfl rfl rfl (Sd rfl rfl rfl rfl rfl (Ud rfl rfl rfl rfl (Ud rfl rfl rfl rfl (Ud rfl rfl rfl rfl (Ud rfl rfl rfl rfl (Sd rfl rfl rfl rfl rfl (qT rfl rfl rfl rfl (Nl (Wt rfl rfl (Wq (qW 49 50 rfl rfl rfl (qA rfl rfl (Nl (Wz ⟨.inl rfl,_,mt,Rc (Rt rfl) (Rn),all_mt,?_⟩))))))))))))))))))))))))))))))))))))
      exact ⟨by (simp_all [validN,retOf])<;>(first|omega|(rw [Bool.eq_iff_iff];simp only [Bool.and_eq_true,Bool.or_eq_true,decide_eq_true_eq,beq_iff_eq];omega)),rfl⟩
    ·
      try (have hb2p:=of_decide_eq_false hb2)
      try (have hb2q:=ne_of_beq_false hb2)
      refine Gd rfl rfl rfl hb2 rfl (Fa rfl rfl ty78 rfl (by decide)) (Gd rfl rfl rfl hb2 rfl (Ld rfl rfl rfl rfl ty3 rfl) (Gd rfl rfl rfl hb2 rfl (Ls rfl rfl rfl) (qP rfl rfl hb2 rfl (qM rfl rfl (RW.split (t:=16) rfl (fun hb3=>?_) (fun hb3=>?_))))))
      ·
        try (have hb3p:=of_decide_eq_true hb3)
        try (have hb3q:=eq_of_beq hb3)
        refine Sd rfl rfl rfl hb3 rfl (Sd rfl rfl rfl hb3 rfl (Sd rfl rfl rfl hb3 rfl (qT rfl rfl hb3 rfl (qM rfl rfl (Sd rfl rfl rfl rfl rfl (Sd rfl rfl rfl rfl rfl (Sd rfl rfl rfl rfl rfl (Sd rfl rfl rfl rfl rfl (Ud rfl rfl rfl rfl (Ud rfl rfl rfl rfl (Ud rfl rfl rfl rfl (Sd rfl rfl rfl rfl rfl (qT rfl rfl rfl rfl (qM rfl rfl (Sd rfl rfl rfl rfl rfl (Sd rfl rfl rfl rfl rfl (Sd rfl rfl rfl rfl rfl (Sd rfl rfl rfl rfl rfl (Ud rfl rfl rfl rfl (Ud rfl rfl rfl rfl (Ud rfl rfl rfl rfl (Ud rfl rfl rfl rfl (Sd rfl rfl rfl rfl rfl (qT rfl rfl rfl rfl (Nl (Wt rfl rfl (Wq (qW 49 50 rfl rfl rfl (qA rfl rfl (Nl (Wz ⟨.inl rfl,_,mt,Rc (Rt rfl) (Rn),all_mt,?_⟩)))))))))))))))))))))))))))))))
        exact ⟨by (simp_all [validN,retOf])<;>(first|omega|(rw [Bool.eq_iff_iff];simp only [Bool.and_eq_true,Bool.or_eq_true,decide_eq_true_eq,beq_iff_eq];omega)),rfl⟩
      ·
        try (have hb3p:=of_decide_eq_false hb3)
        try (have hb3q:=ne_of_beq_false hb3)
        refine Gd rfl rfl rfl hb3 rfl (Fa rfl rfl ty78 rfl (by decide)) (Gd rfl rfl rfl hb3 rfl (Ld rfl rfl rfl rfl ty3 rfl) (Gd rfl rfl rfl hb3 rfl (Gt0 rfl rfl rfl) (qP rfl rfl hb3 rfl (qM rfl rfl (RW.split (t:=21) rfl (fun hb4=>?_) (fun hb4=>?_))))))
        ·
          try (have hb4p:=of_decide_eq_true hb4)
          try (have hb4q:=eq_of_beq hb4)
          refine Sd rfl rfl rfl hb4 rfl (Sd rfl rfl rfl hb4 rfl (Sd rfl rfl rfl hb4 rfl (Sd rfl rfl rfl hb4 rfl (Ud rfl rfl rfl rfl (Ud rfl rfl rfl rfl (Ud rfl rfl rfl rfl (Sd rfl rfl rfl hb4 rfl (qT rfl rfl hb4 rfl (qM rfl rfl (Sd rfl rfl rfl rfl rfl (Sd rfl rfl rfl rfl rfl (Sd rfl rfl rfl rfl rfl (Sd rfl rfl rfl rfl rfl (Ud rfl rfl rfl rfl (Ud rfl rfl rfl rfl (Ud rfl rfl rfl rfl (Ud rfl rfl rfl rfl (Sd rfl rfl rfl rfl rfl (qT rfl rfl rfl rfl (Nl (Wt rfl rfl (Wq (qW 49 50 rfl rfl rfl (qA rfl rfl (Nl (Wz ⟨.inl rfl,_,mt,Rc (Rt rfl) (Rn),all_mt,?_⟩))))))))))))))))))))))))))
          exact ⟨by (simp_all [validN,retOf])<;>(first|omega|(rw [Bool.eq_iff_iff];simp only [Bool.and_eq_true,Bool.or_eq_true,decide_eq_true_eq,beq_iff_eq];omega)),rfl⟩
        ·
          try (have hb4p:=of_decide_eq_false hb4)
          try (have hb4q:=ne_of_beq_false hb4)
          refine Gd rfl rfl rfl hb4 rfl (Fa rfl rfl ty78 rfl (by decide)) (Gd rfl rfl rfl hb4 rfl (Ld rfl rfl rfl rfl ty3 rfl) (Gd rfl rfl rfl hb4 rfl (Gt0 rfl rfl rfl) (Gd rfl rfl rfl hb4 rfl (Mv rfl rfl) (RW.split (t:=25) rfl (fun hb5=>?_) (fun hb5=>?_)))))
          ·
            try (have hb5p:=of_decide_eq_true hb5)
            try (have hb5q:=eq_of_beq hb5)
            refine Gd rfl rfl rfl hb5 rfl (Fa rfl rfl ty78 rfl (by decide)) (Gd rfl rfl rfl hb5 rfl (Ld rfl rfl rfl rfl ty3 rfl) (Gd rfl rfl rfl hb5 rfl (Ne0 rfl rfl rfl) (Gd rfl rfl rfl hb4 rfl (Pt rfl rfl hb5 rfl) (qP rfl rfl hb4 rfl (qM rfl rfl (RW.split (t:=31) rfl (fun hb6=>?_) (fun hb6=>?_)))))))
            ·
              try (have hb6p:=of_decide_eq_true hb6)
              try (have hb6q:=eq_of_beq hb6)
              refine Sd rfl rfl rfl hb6 rfl (Sd rfl rfl rfl hb6 rfl (Sd rfl rfl rfl hb6 rfl (Sd rfl rfl rfl hb6 rfl (Ud rfl rfl rfl rfl (Ud rfl rfl rfl rfl (Ud rfl rfl rfl rfl (Ud rfl rfl rfl rfl (Sd rfl rfl rfl hb6 rfl (qT rfl rfl hb6 rfl (Nl (Wt rfl rfl (Wq (qW 49 50 rfl rfl rfl (qA rfl rfl (Nl (Wz ⟨.inl rfl,_,mt,Rc (Rt rfl) (Rn),all_mt,?_⟩))))))))))))))))
              exact ⟨by (simp_all [validN,retOf])<;>(first|omega|(rw [Bool.eq_iff_iff];simp only [Bool.and_eq_true,Bool.or_eq_true,decide_eq_true_eq,beq_iff_eq];omega)),rfl⟩
            ·
              try (have hb6p:=of_decide_eq_false hb6)
              try (have hb6q:=ne_of_beq_false hb6)
              refine Gd rfl rfl rfl hb6 rfl (Fa rfl rfl ty78 rfl (by decide)) (Gd rfl rfl rfl hb6 rfl (Ld rfl rfl rfl rfl ty4 rfl) (Gd rfl rfl rfl hb6 rfl (Nt rfl rfl) (Gd rfl rfl rfl hb6 rfl (Mv rfl rfl) (RW.split (t:=35) rfl (fun hb7=>?_) (fun hb7=>?_)))))
              ·
                try (have hb7p:=of_decide_eq_true hb7)
                try (have hb7q:=eq_of_beq hb7)
                refine Gd rfl rfl rfl hb7 rfl (Fa rfl rfl ty78 rfl (by decide)) (Gd rfl rfl rfl hb7 rfl (La rfl rfl rfl ty23 rfl (nb_tkM hl)) (Gd rfl rfl rfl hb7 rfl (LO.build_ar rfl ty23 ty5 .nil) (Gd rfl rfl rfl hb7 rfl (LO.neq_mac n.ln zMac hl rfl rfl rfl rfl) (Gd rfl rfl rfl hb6 rfl (Pt rfl rfl hb7 rfl) (qP rfl rfl hb6 rfl (Nl (W.cond rfl (fun hb8=>?_) (fun hb8=>?_))))))))
                ·
                  try (have hb8p:=of_decide_eq_true hb8)
                  try (have hb8q:=eq_of_beq hb8)
                  refine Wq (qW 49 50 rfl rfl rfl (qA rfl rfl (Nl (Wz ⟨.inl rfl,_,mt,Rc (Rt rfl) (Rn),all_mt,?_⟩))))
                  exact ⟨by (simp_all [validN,retOf])<;>(first|omega|(rw [Bool.eq_iff_iff];simp only [Bool.and_eq_true,Bool.or_eq_true,decide_eq_true_eq,beq_iff_eq];omega)),rfl⟩
                ·
                  try (have hb8p:=of_decide_eq_false hb8)
                  try (have hb8q:=ne_of_beq_false hb8)
                  refine Wk (Wq (Wq (qW 54 57 rfl rfl rfl (qF rfl rfl ty78 rfl rfl (qL rfl rfl rfl rfl ty3 rfl (Od rfl rfl (C0 (fr:=[]) rfl rfl (htg _) fok71 (.cons rfl (.pure rfl) .nil) rfl) (Nl (W.cond rfl (fun hb9=>?_) (fun hb9=>?_)))))))))
                  ·
                    try (have hb9p:=of_decide_eq_true hb9)
                    try (have hb9q:=eq_of_beq hb9)
                    refine Wq (qW 61 71 rfl rfl rfl (qF rfl rfl ty78 rfl rfl (qF rfl rfl ty42 rfl rfl (qL rfl rfl rfl rfl ty4 rfl (qM rfl rfl (RW.split (t:=48) rfl (fun hb10=>?_) (fun hb10=>?_)))))))
                    ·
                      try (have hb10p:=of_decide_eq_true hb10)
                      try (have hb10q:=eq_of_beq hb10)
                      refine Gd rfl rfl rfl hb10 rfl (Fa rfl rfl ty78 rfl (by decide)) (Gd rfl rfl rfl hb10 rfl (La rfl rfl rfl ty42 rfl (Tl rfl)) (Gd rfl rfl rfl hb10 rfl (C0 (fr:=[]) rfl rfl (hgr _) fok72 (.cons rfl (.pure rfl) .nil) rfl) (Gd rfl rfl rfl hb10 rfl (Nt rfl rfl) (qT rfl rfl hb10 rfl (qA rfl rfl (Nl (Wz ⟨.inl rfl,_,mt,Rc (Rt rfl) (Rn),all_mt,?_⟩)))))))
                      exact ⟨by (simp_all [validN,retOf])<;>(first|omega|(rw [Bool.eq_iff_iff];simp only [Bool.and_eq_true,Bool.or_eq_true,decide_eq_true_eq,beq_iff_eq];omega)),rfl⟩
                    ·
                      try (have hb10p:=of_decide_eq_false hb10)
                      try (have hb10q:=ne_of_beq_false hb10)
                      refine Sd rfl rfl rfl hb10 rfl (Sd rfl rfl rfl hb10 rfl (Sd rfl rfl rfl hb10 rfl (Sd rfl rfl rfl hb10 rfl (qP rfl rfl hb10 rfl (qA rfl rfl (Nl (Wz ⟨.inl rfl,_,mt,Rc (Rt rfl) (Rn),all_mt,?_⟩)))))))
                      exact ⟨by (simp_all [validN,retOf])<;>(first|omega|(rw [Bool.eq_iff_iff];simp only [Bool.and_eq_true,Bool.or_eq_true,decide_eq_true_eq,beq_iff_eq];omega)),rfl⟩
                  ·
                    try (have hb9p:=of_decide_eq_false hb9)
                    try (have hb9q:=ne_of_beq_false hb9)
                    refine Wk (Wq (qW 75 80 rfl rfl rfl (qF rfl rfl ty78 rfl rfl (qG rfl rfl rfl ty42 rfl (Tl rfl) (Od rfl rfl (Bs rfl ty42 .nil) (Od rfl rfl (LO.eql_ad n.tg zAd rfl rfl rfl) (qA rfl rfl (Nl (Wz ⟨.inl rfl,_,mt,Rc (Rt rfl) (Rn),all_mt,?_⟩)))))))))
                    exact ⟨by (simp_all [validN,retOf])<;>(first|omega|(rw [Bool.eq_iff_iff];simp only [Bool.and_eq_true,Bool.or_eq_true,decide_eq_true_eq,beq_iff_eq];omega)),rfl⟩
              ·
                try (have hb7p:=of_decide_eq_false hb7)
                try (have hb7q:=ne_of_beq_false hb7)
                refine Sd rfl rfl rfl hb7 rfl (Sd rfl rfl rfl hb7 rfl (Sd rfl rfl rfl hb7 rfl (Sd rfl rfl rfl hb7 rfl (Gd rfl rfl rfl hb6 rfl (Pf0 rfl rfl hb7 rfl) (qP rfl rfl hb6 rfl (Nl (Wf rfl rfl (Wk (Wq (Wq (qW 54 57 rfl rfl rfl (qF rfl rfl ty78 rfl rfl (qL rfl rfl rfl rfl ty3 rfl (Od rfl rfl (C0 (fr:=[]) rfl rfl (htg _) fok71 (.cons rfl (.pure rfl) .nil) rfl) (Nl (W.cond rfl (fun hb11=>?_) (fun hb11=>?_)))))))))))))))))
                ·
                  try (have hb11p:=of_decide_eq_true hb11)
                  try (have hb11q:=eq_of_beq hb11)
                  refine Wq (qW 61 71 rfl rfl rfl (qF rfl rfl ty78 rfl rfl (qF rfl rfl ty42 rfl rfl (qL rfl rfl rfl rfl ty4 rfl (qM rfl rfl (RW.split (t:=48) rfl (fun hb12=>?_) (fun hb12=>?_)))))))
                  ·
                    try (have hb12p:=of_decide_eq_true hb12)
                    try (have hb12q:=eq_of_beq hb12)
                    refine Gd rfl rfl rfl hb12 rfl (Fa rfl rfl ty78 rfl (by decide)) (Gd rfl rfl rfl hb12 rfl (La rfl rfl rfl ty42 rfl (Tl rfl)) (Gd rfl rfl rfl hb12 rfl (C0 (fr:=[]) rfl rfl (hgr _) fok72 (.cons rfl (.pure rfl) .nil) rfl) (Gd rfl rfl rfl hb12 rfl (Nt rfl rfl) (qT rfl rfl hb12 rfl (qA rfl rfl (Nl (Wz ⟨.inl rfl,_,mt,Rc (Rt rfl) (Rn),all_mt,?_⟩)))))))
                    exact ⟨by (simp_all [validN,retOf])<;>(first|omega|(rw [Bool.eq_iff_iff];simp only [Bool.and_eq_true,Bool.or_eq_true,decide_eq_true_eq,beq_iff_eq];omega)),rfl⟩
                  ·
                    try (have hb12p:=of_decide_eq_false hb12)
                    try (have hb12q:=ne_of_beq_false hb12)
                    refine Sd rfl rfl rfl hb12 rfl (Sd rfl rfl rfl hb12 rfl (Sd rfl rfl rfl hb12 rfl (Sd rfl rfl rfl hb12 rfl (qP rfl rfl hb12 rfl (qA rfl rfl (Nl (Wz ⟨.inl rfl,_,mt,Rc (Rt rfl) (Rn),all_mt,?_⟩)))))))
                    exact ⟨by (simp_all [validN,retOf])<;>(first|omega|(rw [Bool.eq_iff_iff];simp only [Bool.and_eq_true,Bool.or_eq_true,decide_eq_true_eq,beq_iff_eq];omega)),rfl⟩
                ·
                  try (have hb11p:=of_decide_eq_false hb11)
                  try (have hb11q:=ne_of_beq_false hb11)
                  refine Wk (Wq (qW 75 80 rfl rfl rfl (qF rfl rfl ty78 rfl rfl (qG rfl rfl rfl ty42 rfl (Tl rfl) (Od rfl rfl (Bs rfl ty42 .nil) (Od rfl rfl (LO.eql_ad n.tg zAd rfl rfl rfl) (qA rfl rfl (Nl (Wz ⟨.inl rfl,_,mt,Rc (Rt rfl) (Rn),all_mt,?_⟩)))))))))
                  exact ⟨by (simp_all [validN,retOf])<;>(first|omega|(rw [Bool.eq_iff_iff];simp only [Bool.and_eq_true,Bool.or_eq_true,decide_eq_true_eq,beq_iff_eq];omega)),rfl⟩
          ·
            try (have hb5p:=of_decide_eq_false hb5)
            try (have hb5q:=ne_of_beq_false hb5)
            refine Sd rfl rfl rfl hb5 rfl (Sd rfl rfl rfl hb5 rfl (Sd rfl rfl rfl hb5 rfl (Gd rfl rfl rfl hb4 rfl (Pf0 rfl rfl hb5 rfl) (qP rfl rfl hb4 rfl (qM rfl rfl (Gd rfl rfl rfl rfl rfl (Fa rfl rfl ty78 rfl (by decide)) (Gd rfl rfl rfl rfl rfl (Ld rfl rfl rfl rfl ty4 rfl) (Gd rfl rfl rfl rfl rfl (Nt rfl rfl) (Gd rfl rfl rfl rfl rfl (Mv rfl rfl) (RW.split (t:=35) rfl (fun hb13=>?_) (fun hb13=>?_)))))))))))
            ·
              try (have hb13p:=of_decide_eq_true hb13)
              try (have hb13q:=eq_of_beq hb13)
              refine Gd rfl rfl rfl hb13 rfl (Fa rfl rfl ty78 rfl (by decide)) (Gd rfl rfl rfl hb13 rfl (La rfl rfl rfl ty23 rfl (nb_tkM hl)) (Gd rfl rfl rfl hb13 rfl (LO.build_ar rfl ty23 ty5 .nil) (Gd rfl rfl rfl hb13 rfl (LO.neq_mac n.ln zMac hl rfl rfl rfl rfl) (Gd rfl rfl rfl rfl rfl (Pt rfl rfl hb13 rfl) (qP rfl rfl rfl rfl (Nl (W.cond rfl (fun hb14=>?_) (fun hb14=>?_))))))))
              ·
                try (have hb14p:=of_decide_eq_true hb14)
                try (have hb14q:=eq_of_beq hb14)
                refine Wq (qW 49 50 rfl rfl rfl (qA rfl rfl (Nl (Wz ⟨.inl rfl,_,mt,Rc (Rt rfl) (Rn),all_mt,?_⟩))))
                exact ⟨by (simp_all [validN,retOf])<;>(first|omega|(rw [Bool.eq_iff_iff];simp only [Bool.and_eq_true,Bool.or_eq_true,decide_eq_true_eq,beq_iff_eq];omega)),rfl⟩
              ·
                try (have hb14p:=of_decide_eq_false hb14)
                try (have hb14q:=ne_of_beq_false hb14)
                refine Wk (Wq (Wq (qW 54 57 rfl rfl rfl (qF rfl rfl ty78 rfl rfl (qL rfl rfl rfl rfl ty3 rfl (Od rfl rfl (C0 (fr:=[]) rfl rfl (htg _) fok71 (.cons rfl (.pure rfl) .nil) rfl) (Nl (W.cond rfl (fun hb15=>?_) (fun hb15=>?_)))))))))
                ·
                  try (have hb15p:=of_decide_eq_true hb15)
                  try (have hb15q:=eq_of_beq hb15)
                  refine Wq (qW 61 71 rfl rfl rfl (qF rfl rfl ty78 rfl rfl (qF rfl rfl ty42 rfl rfl (qL rfl rfl rfl rfl ty4 rfl (qM rfl rfl (RW.split (t:=48) rfl (fun hb16=>?_) (fun hb16=>?_)))))))
                  ·
                    try (have hb16p:=of_decide_eq_true hb16)
                    try (have hb16q:=eq_of_beq hb16)
                    refine Gd rfl rfl rfl hb16 rfl (Fa rfl rfl ty78 rfl (by decide)) (Gd rfl rfl rfl hb16 rfl (La rfl rfl rfl ty42 rfl (Tl rfl)) (Gd rfl rfl rfl hb16 rfl (C0 (fr:=[]) rfl rfl (hgr _) fok72 (.cons rfl (.pure rfl) .nil) rfl) (Gd rfl rfl rfl hb16 rfl (Nt rfl rfl) (qT rfl rfl hb16 rfl (qA rfl rfl (Nl (Wz ⟨.inl rfl,_,mt,Rc (Rt rfl) (Rn),all_mt,?_⟩)))))))
                    exact ⟨by (simp_all [validN,retOf])<;>(first|omega|(rw [Bool.eq_iff_iff];simp only [Bool.and_eq_true,Bool.or_eq_true,decide_eq_true_eq,beq_iff_eq];omega)),rfl⟩
                  ·
                    try (have hb16p:=of_decide_eq_false hb16)
                    try (have hb16q:=ne_of_beq_false hb16)
                    refine Sd rfl rfl rfl hb16 rfl (Sd rfl rfl rfl hb16 rfl (Sd rfl rfl rfl hb16 rfl (Sd rfl rfl rfl hb16 rfl (qP rfl rfl hb16 rfl (qA rfl rfl (Nl (Wz ⟨.inl rfl,_,mt,Rc (Rt rfl) (Rn),all_mt,?_⟩)))))))
                    exact ⟨by (simp_all [validN,retOf])<;>(first|omega|(rw [Bool.eq_iff_iff];simp only [Bool.and_eq_true,Bool.or_eq_true,decide_eq_true_eq,beq_iff_eq];omega)),rfl⟩
                ·
                  try (have hb15p:=of_decide_eq_false hb15)
                  try (have hb15q:=ne_of_beq_false hb15)
                  refine Wk (Wq (qW 75 80 rfl rfl rfl (qF rfl rfl ty78 rfl rfl (qG rfl rfl rfl ty42 rfl (Tl rfl) (Od rfl rfl (Bs rfl ty42 .nil) (Od rfl rfl (LO.eql_ad n.tg zAd rfl rfl rfl) (qA rfl rfl (Nl (Wz ⟨.inl rfl,_,mt,Rc (Rt rfl) (Rn),all_mt,?_⟩)))))))))
                  exact ⟨by (simp_all [validN,retOf])<;>(first|omega|(rw [Bool.eq_iff_iff];simp only [Bool.and_eq_true,Bool.or_eq_true,decide_eq_true_eq,beq_iff_eq];omega)),rfl⟩
            ·
              try (have hb13p:=of_decide_eq_false hb13)
              try (have hb13q:=ne_of_beq_false hb13)
              refine Sd rfl rfl rfl hb13 rfl (Sd rfl rfl rfl hb13 rfl (Sd rfl rfl rfl hb13 rfl (Sd rfl rfl rfl hb13 rfl (Gd rfl rfl rfl rfl rfl (Pf0 rfl rfl hb13 rfl) (qP rfl rfl rfl rfl (Nl (Wf rfl rfl (Wk (Wq (Wq (qW 54 57 rfl rfl rfl (qF rfl rfl ty78 rfl rfl (qL rfl rfl rfl rfl ty3 rfl (Od rfl rfl (C0 (fr:=[]) rfl rfl (htg _) fok71 (.cons rfl (.pure rfl) .nil) rfl) (Nl (W.cond rfl (fun hb17=>?_) (fun hb17=>?_)))))))))))))))))
              ·
                try (have hb17p:=of_decide_eq_true hb17)
                try (have hb17q:=eq_of_beq hb17)
                refine Wq (qW 61 71 rfl rfl rfl (qF rfl rfl ty78 rfl rfl (qF rfl rfl ty42 rfl rfl (qL rfl rfl rfl rfl ty4 rfl (qM rfl rfl (RW.split (t:=48) rfl (fun hb18=>?_) (fun hb18=>?_)))))))
                ·
                  try (have hb18p:=of_decide_eq_true hb18)
                  try (have hb18q:=eq_of_beq hb18)
                  refine Gd rfl rfl rfl hb18 rfl (Fa rfl rfl ty78 rfl (by decide)) (Gd rfl rfl rfl hb18 rfl (La rfl rfl rfl ty42 rfl (Tl rfl)) (Gd rfl rfl rfl hb18 rfl (C0 (fr:=[]) rfl rfl (hgr _) fok72 (.cons rfl (.pure rfl) .nil) rfl) (Gd rfl rfl rfl hb18 rfl (Nt rfl rfl) (qT rfl rfl hb18 rfl (qA rfl rfl (Nl (Wz ⟨.inl rfl,_,mt,Rc (Rt rfl) (Rn),all_mt,?_⟩)))))))
                  exact ⟨by (simp_all [validN,retOf])<;>(first|omega|(rw [Bool.eq_iff_iff];simp only [Bool.and_eq_true,Bool.or_eq_true,decide_eq_true_eq,beq_iff_eq];omega)),rfl⟩
                ·
                  try (have hb18p:=of_decide_eq_false hb18)
                  try (have hb18q:=ne_of_beq_false hb18)
                  refine Sd rfl rfl rfl hb18 rfl (Sd rfl rfl rfl hb18 rfl (Sd rfl rfl rfl hb18 rfl (Sd rfl rfl rfl hb18 rfl (qP rfl rfl hb18 rfl (qA rfl rfl (Nl (Wz ⟨.inl rfl,_,mt,Rc (Rt rfl) (Rn),all_mt,?_⟩)))))))
                  exact ⟨by (simp_all [validN,retOf])<;>(first|omega|(rw [Bool.eq_iff_iff];simp only [Bool.and_eq_true,Bool.or_eq_true,decide_eq_true_eq,beq_iff_eq];omega)),rfl⟩
              ·
                try (have hb17p:=of_decide_eq_false hb17)
                try (have hb17q:=ne_of_beq_false hb17)
                refine Wk (Wq (qW 75 80 rfl rfl rfl (qF rfl rfl ty78 rfl rfl (qG rfl rfl rfl ty42 rfl (Tl rfl) (Od rfl rfl (Bs rfl ty42 .nil) (Od rfl rfl (LO.eql_ad n.tg zAd rfl rfl rfl) (qA rfl rfl (Nl (Wz ⟨.inl rfl,_,mt,Rc (Rt rfl) (Rn),all_mt,?_⟩)))))))))
                exact ⟨by (simp_all [validN,retOf])<;>(first|omega|(rw [Bool.eq_iff_iff];simp only [Bool.and_eq_true,Bool.or_eq_true,decide_eq_true_eq,beq_iff_eq];omega)),rfl⟩
end Go.Proofs.YtcidmiacfjdepaaGreatDoor
