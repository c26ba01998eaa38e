/- The law ReferencesReply: it returns true. Condition: the list takes at most 2^46 bytes. -/
import Derived.Test.YtohdkmgnnncpkaaC13
import Derived.Test.YtohdkmgnnncpkaaC7
namespace Go.Proofs.Ytohdkmgnnncpkaa
open Go.RowKit
/-- A tuple of a row that the region has made, and a number. -/
def Asr.rowE (base : Nat) (e : TypeId) (sz n : Nat) (xs : List Value) (k : Int) : Asr :=
  ⟨fun v w => ∃ ao cap, v = .tuple #[.slice ao n cap, .int .i64 k] ∧ w.ownsRow base e sz (.slice ao n cap) n xs, fun _ _ _ ⟨a, c, h1, h2⟩ hb => ⟨a, c, h1, ownsRow_below h2 hb⟩⟩
theorem ex_extract {P : Program} {ρ : Operand → Value} {dst : Option Tmp} {ty : TypeId} {pos : String} {after : Array Edge} {guard : Option (Nat × Bool)} {x : Operand} {vs : Array Value} {i : Nat} {v : Value} (hx : ρ x = .tuple vs) (hv : vs[i]? = some v) (w : World) :
    (execOp ρ { dst := dst, op := .extract x i, type := ty, pos := pos, after := after, guard := guard }).run P w = .ok (.value v) w := by
  simp [execOp, hx, hv, Instr.extract]
theorem B13 : Body Try.prog 13 := ⟨_, _, Try.func13, rfl, rfl⟩
theorem B23 : Body Try.prog 23 := ⟨_, _, Try.func23, rfl, rfl⟩
theorem replyV_len (l : List Id) (x : Id) : (replyV l x).length ≤ 20 := by
  unfold replyV
  split
  · rw [cutL_len _ _ (by omega)]; omega
  · simp
set_option maxRecDepth 100000 in
set_option maxHeartbeats 1000000 in
theorem law_reply (w : World) (v : Value) (l : List Id) (x : Id) (hl : Ids w v l) (hn : l.length * 32 ≤ 140737488355328) :
    Calls Try.prog 6 #[v, x.val] w (RetB w true) := by
  obtain ⟨ao, cap, rfl, hc⟩ := hl.shape
  have HL := hid hl
  have HN := hid hn
  have HH := hid (Holds.init w)
  clear hl hn
  by_cases hlen : 30 < l.length
  · go_enter Try.func6, Try.ntmps6
    go_wp2_with (first
      | (go_at_call 11; refine (known_any _).mono ?_; rintro e w2 ⟨rfl, hb⟩; (have hq_ := HH.out.grow hb); clear HH; have HH := hid hq_; clear hq_ hb)
      | ((with_reducible apply wpList_loadA A38 HH.out); rfl; (first | exact .here | exact .there .here | exact .there (.there .here) | exact .there (.there (.there .here)) | exact .there (.there (.there (.there .here))) | exact .there (.there (.there (.there (.there .here))))); rfl)
      | ((with_reducible apply wpList_allocA Z38 HH.out); go_must ((rfl; (intro g_ w_ hq_; clear HH; have HH := hid hq_; clear hq_))))
      | ((with_reducible apply wpList_storeA S38 HH.out); go_must ((rfl; rfl; (first | exact .here | exact .there .here | exact .there (.there .here) | exact .there (.there (.there .here)) | exact .there (.there (.there (.there .here))) | exact .there (.there (.there (.there (.there .here))))); rfl; (intro w_ hq_; clear HH; have HH := hid hq_; clear hq_))))
      | ((with_reducible apply wpList_boxA (e := 38) HH.out); rfl; rfl; (intro g_ w_ hq_; clear HH; have HH := hid hq_; clear hq_)))
    go_ret
    exact RetB.mk rfl HH.out.below
  · have hn2 : (l.length + 1) * 32 ≤ 140737488355328 := by omega
    have HN2 := hid hn2
    have hv20 := replyV_len l x
    have S1 := hid (show (replyV l x == replyV l x) = true from beq_yes rfl)
    go_enter Try.func6, Try.ntmps6
    go_wp2_with (first
      | ((with_reducible apply wpList_boxA (e := 38) HH.out); rfl; rfl; (intro gx w_ hq_; clear HH; have HH := hid hq_; clear hq_))
      | (go_at_call 11; refine (known_any _).mono ?_; rintro e w2 ⟨rfl, hb⟩; (have hq_ := HH.out.grow hb); clear HH; have HH := hid hq_; clear hq_ hb)
      | ((with_reducible apply wpList_loadA A38 HH.out); rfl; (first | exact .here | exact .there .here | exact .there (.there .here) | exact .there (.there (.there .here)) | exact .there (.there (.there (.there .here))) | exact .there (.there (.there (.there (.there .here))))); rfl)
      | ((with_reducible apply wpList_allocA Z38 HH.out); go_must ((rfl; (intro g_ w_ hq_; clear HH; have HH := hid hq_; clear hq_))))
      | ((with_reducible apply wpList_storeA S38 HH.out); go_must ((rfl; rfl; (first | exact .here | exact .there .here | exact .there (.there .here) | exact .there (.there (.there .here)) | exact .there (.there (.there (.there .here))) | exact .there (.there (.there (.there (.there .here))))); rfl; (intro w_ hq_; clear HH; have HH := hid hq_; clear hq_))))
      | ((with_reducible apply wpList_boxA (e := 38) HH.out); rfl; rfl; (intro g_ w_ hq_; clear HH; have HH := hid hq_; clear hq_)))
    refine wp_region_R [Asr.is (.slice ao l.length cap), Asr.row w2.heap.size 33 32 l.length (flat l), Asr.is x.val, Asr.rowE w2.heap.size 33 32 (replyV l x).length (flat (replyV l x)) (replyE l x), Asr.rowE w2.heap.size 33 32 (replyV l x).length (flat (replyV l x)) (replyE l x), Asr.row w2.heap.size 33 32 (replyV l x).length (flat (replyV l x)), Asr.is (.int .i64 (replyE l x)), Asr.row w2.heap.size 33 32 (replyV l x).length (flat (replyV l x)), Asr.is (.int .i64 (replyE l x))] HH.out (by kernel_rfl) (by kernel_rfl) rfl ?_ ?_
    · refine eachD_cons ?_ (eachD_cons ?_ (eachD_cons ?_ (eachD_cons ?_ (eachD_cons ?_ (eachD_cons ?_ (eachD_cons ?_ (eachD_cons ?_ (eachD_cons ?_ (eachD_nil)))))))))
      · intro a_ w1 hI hF hS
        have e0 : a_.eval (.tmp 0) = (.slice ao l.length cap) := (hF.2.2 0 (notDst_of (by kernel_rfl))).trans rfl
        refine wantD (by rfl) ?_
        exact op_val rfl (ex_move rfl w1) e0
      · intro a_ w1 hI hF hS
        have e18 : a_.eval (.tmp 18) = (.slice ao l.length cap) := hS ⟨0, .data⟩ (by simp) rfl _ rfl
        refine wantD (by rfl) ?_
        exact op_call B13 rfl ((own_any w1 _ l (by rw [e18]; exact hI.1.sl HL.out) HN.out).mono fun e w' ⟨a', c', he, hr, hb⟩ => ⟨_, he, hb, row_base hr hI.2.size⟩)
      · intro a_ w1 hI hF hS
        have e3 : a_.eval (.tmp 3) = (.pointer (some ⟨gx, 0, none⟩)) := (hF.2.2 3 (notDst_of (by kernel_rfl))).trans rfl
        refine wantD (by rfl) ?_
        exact op_val rfl (ex_loadA A38 hI.1 e3 (by exact .here)) rfl
      · intro a_ w1 hI hF hS
        have e19 : (Asr.row w2.heap.size 33 32 l.length (flat l)).p (a_.eval (.tmp 19)) w1 := hS ⟨1, .data⟩ (by simp) rfl _ rfl
        have e20 : a_.eval (.tmp 20) = x.val := hS ⟨2, .data⟩ (by simp) rfl _ rfl
        refine wantD (by rfl) ?_
        exact op_call (args := #[a_.eval (.tmp 19), x.val]) B23 (by rw [← e20]; rfl) ((reply_any w1 _ l x (Sl.of_row e19) HN2.out).mono fun e w' ⟨a', c', he, hr, hb⟩ => ⟨_, he, hb, _, _, rfl, row_base hr hI.2.size⟩)
      · intro a_ w1 hI hF hS
        have e21 : (Asr.rowE w2.heap.size 33 32 (replyV l x).length (flat (replyV l x)) (replyE l x)).p (a_.eval (.tmp 21)) w1 := hS ⟨3, .data⟩ (by simp) rfl _ rfl
        refine wantD (by rfl) ?_
        exact op_val rfl (ex_move rfl w1) e21
      · intro a_ w1 hI hF hS
        have e17 : (Asr.rowE w2.heap.size 33 32 (replyV l x).length (flat (replyV l x)) (replyE l x)).p (a_.eval (.tmp 17)) w1 := hS ⟨4, .data⟩ (by simp) rfl _ rfl
        refine wantD (by rfl) ?_
        obtain ⟨ar, cr, er, hr⟩ := e17; exact op_val rfl (ex_extract er rfl w1) hr
      · intro a_ w1 hI hF hS
        have e17 : (Asr.rowE w2.heap.size 33 32 (replyV l x).length (flat (replyV l x)) (replyE l x)).p (a_.eval (.tmp 17)) w1 := hS ⟨4, .data⟩ (by simp) rfl _ rfl
        refine wantD (by rfl) ?_
        obtain ⟨ar, cr, er, hr⟩ := e17; exact op_val rfl (ex_extract er rfl w1) rfl
      · intro a_ w1 hI hF hS
        have e22 : (Asr.row w2.heap.size 33 32 (replyV l x).length (flat (replyV l x))).p (a_.eval (.tmp 22)) w1 := hS ⟨5, .data⟩ (by simp) rfl _ rfl
        refine wantD (by rfl) ?_
        exact op_val rfl (ex_assign rfl w1) e22
      · intro a_ w1 hI hF hS
        have e23 : a_.eval (.tmp 23) = (.int .i64 (replyE l x)) := hS ⟨6, .data⟩ (by simp) rfl _ rfl
        refine wantD (by rfl) ?_
        exact op_val rfl (ex_assign rfl w1) e23
    intro wq hq_ hb_
    intro v0_ h0_ v1_ h1_ v2_ h2_ v3_ h3_ v4_ h4_ v5_ h5_ v6_ h6_ v7_ h7_ v8_ h8_
    have q_ : v0_ = (.slice ao l.length cap) := h0_; clear h0_; subst q_
    have K1 := hid h1_; clear h1_
    have q_ : v2_ = x.val := h2_; clear h2_; subst q_
    have K3 := hid h3_; clear h3_
    have K4 := hid h4_; clear h4_
    have K5 := hid h5_; clear h5_
    have q_ : v6_ = (.int .i64 (replyE l x)) := h6_; clear h6_; subst q_
    have K7 := hid h7_; clear h7_
    have q_ : v8_ = (.int .i64 (replyE l x)) := h8_; clear h8_; subst q_
    simp only [endD, putsD, Act.put, List.setIfInBounds_toArray, List.set_cons_succ, List.set_cons_zero]
    have HQ := hid hq_; clear hq_
    have HB_ := hid hb_; clear hb_
    obtain ⟨ac, cc, rfl⟩ := row_shape K7.out
    have HA : Hid (Holds w [] [(gx, objA x 38)] [⟨.slice ac (replyV l x).length cc, 33, 32, (replyV l x).length, flat (replyV l x)⟩] wq) := hid (HH.out.addRow HB_.out K7.out)
    clear HH
    have HH := HA
    clear HA
    go_wp2_with (first
      | (go_at_call 24; (with_reducible refine (refReply_any _ _ l x (HH.out.sl HL.out) HN2.out).mono ?_); rintro e w2 ⟨ao2, cap2, rfl, hr⟩; (have hq_ := HH.out.addRow hr.2 hr.1); clear HH; have HH := hid hq_; clear hq_ hr)
      | (go_at_call 15; (with_reducible refine (same_any _ _ _ (replyV l x) (replyV l x) HH.out.sl1 HH.out.sl0 (by omega)).mono ?_); rw [S1.out]; rintro e w2 ⟨rfl, hb⟩; (have hq_ := HH.out.grow hb); clear HH; have HH := hid hq_; clear hq_ hb)
      | ((with_reducible apply wpList_loadA A38 HH.out); rfl; (first | exact .here | exact .there .here | exact .there (.there .here) | exact .there (.there (.there .here)) | exact .there (.there (.there (.there .here))) | exact .there (.there (.there (.there (.there .here))))); rfl)
      | ((with_reducible apply wpList_allocA Z38 HH.out); go_must ((rfl; (intro g_ w_ hq_; clear HH; have HH := hid hq_; clear hq_))))
      | ((with_reducible apply wpList_storeA S38 HH.out); go_must ((rfl; rfl; (first | exact .here | exact .there .here | exact .there (.there .here) | exact .there (.there (.there .here)) | exact .there (.there (.there (.there .here))) | exact .there (.there (.there (.there (.there .here))))); rfl; (intro w_ hq_; clear HH; have HH := hid hq_; clear hq_))))
      | ((with_reducible apply wpList_boxA (e := 38) HH.out); rfl; rfl; (intro g_ w_ hq_; clear HH; have HH := hid hq_; clear hq_)))
    go_ret
    exact RetB.mk rfl HH.out.below
end Go.Proofs.Ytohdkmgnnncpkaa
