import Derived.ReadAgain
import Derived.ChangeArms
import Derived.OpenShut
import Derived.Deep.Slices
import Derived.Lib.SmallJoins
import Derived.Lib.LaidTab
import Derived.ProofKit
import Derived.Deep.DeepHandedRow
import Derived.Test.YteefcelbbenmdaaGreatDoorA04
set_option linter.all false
namespace Go.Ar
open Go.RowKit
def p_seek_tree_at_L2 (K : Nat)  : Nat → (List Ed) → Int → Int → (Mp Ed Int) → (List Ed) → Option ((Mp Ed Int) × (List Ed))
 | 0, _, _, _, _, _ => none
 | n+1, v23_1, v24_1, v25_1, m1_1, l1006_1 => (bif (decide (v25_1 < v24_1)) then (ixP v23_1 v25_1 fun v4 => (bif (((((m1_1.touch v4 0).set v4 (w64 (((m1_1.get? v4).getD 0) + 1))).get? v4).getD 0) == 1) then (apP 16 l1006_1.length [v4].length (p_seek_tree_at_L2 K  n v23_1 v24_1 (w64 (v25_1 + 1)) ((m1_1.touch v4 0).set v4 (w64 (((m1_1.get? v4).getD 0) + 1))) (l1006_1 ++ [v4]))) else p_seek_tree_at_L2 K  n v23_1 v24_1 (w64 (v25_1 + 1)) ((m1_1.touch v4 0).set v4 (w64 (((m1_1.get? v4).getD 0) + 1))) l1006_1)) else some (m1_1, l1006_1))
def p_seek_tree_at_L1 (K : Nat) (a1 : (List Int)) (a0 : Seek_tree_) : Nat → Int → (Mp Ed Int) → (List Ed) → Option (List Ed)
 | 0, _, _, _ => none
 | n+1, v14_3, m1_3, l1006_3 => (bif (decide (v14_3 < (a1.length : Int))) then (((ixP a1 v14_3 fun v2 => p_seek_tree_at_L2 K  K ((a0.outside.get? v2).getD []) (((a0.outside.get? v2).getD []).length : Int) 0 m1_3 l1006_3) : Option ((Mp Ed Int) × (List Ed))).bind fun (m1_2, l1006_2) => p_seek_tree_at_L1 K a1 a0 n (w64 (v14_3 + 1)) m1_2 l1006_2) else some l1006_3)
def p_seek_tree_at (K : Nat) (a0 : Seek_tree_) (a1 : (List Int)) : Option (List Ed) :=
 ((p_seek_tree_at_L1 K a1 a0 K 0 (Mp.empty : (Mp Ed Int)) [] : Option (List Ed)).bind fun l1006_4 => ((p_slices_SortFunc_Sapi_Edge_api_Edge K l1006_4 (fun (x0 : Ed) (x1 : Ed) => p_seek_tree_at_1 K x0 x1)).bind fun r6 => lenP l1006_4 r6 (some r6)))
theorem w_seek_tree_at {K : Nat} {a0 : Seek_tree_} {a1 : (List Int)} {y : (List Ed)} (hy : p_seek_tree_at K a0 a1 = some y) : Does PP GV 30 [] [((FP Seek_tree_A) a0), ((SL 1 I) a1)] [] [] ((SL 2 EdA) y) := by
 unfold p_seek_tree_at at hy
 refine does_of at30 r (le_ok r) <| ?_
 rintro ⟨_, base, w0, F⟩ rfl
 refine reg 1 r <| asg r r r <| dn <| reg 2 r <| mkM (κ := Ed) (ν := Int) EdK I 1 r r <| asg r r r <| dn <| reg 1 r <| asg r r r <| dn <| ?_
 obtain ⟨o1, hy, k1, hk1, hc1⟩ := bndK hy
 refine meetI (fun (p : (List Ed) × Nat) => match p with | (l1006_4, g1006_1) => mk [(6, .own 1006 g1006_1 2 0 (l1006_4).length false)] [(1006, some (g1006_1, .buf 2 (l1006_4.map EdA)))]) (fun p => match p with | (l1006_4, g1006_1) => k1 l1006_4 = some y) ?_ ?_
 ·skip
  refine reg 3 r <| mv r r r <| lnf (f := I) slB29 r r r <| mv r r r <| dn <| at_block <| niloP (EdA) 6 1006 2 r <| wk (T' := [(0, ((FP Seek_tree_A) a0)), (5, .mp 1 _), (6, .own 1006 _ 2 0 ([]).length false), (12, ((SL 1 I) a1)), (13, (I (a1.length : Int))), (14, (I 0))]) (H' := [(1, some (_, .map (encM EdK I (Mp.empty : (Mp Ed Int))))), (1006, some (_, .buf 2 ([].map EdA)))]) (.k r r (.k r r (.k r r (.k r r (.k r r (.k r r .nil)))))) (.k r r (.k r r .nil)) <| loopI (fun (p : Nat × Int × (Mp Ed Int) × (List Ed) × Nat × Nat) => match p with | (n2, v14_3, m1_3, l1006_3, g1_2, g1006_2) => mk [(0, ((FP Seek_tree_A) a0)), (5, .mp 1 g1_2), (6, .own 1006 g1006_2 2 0 (l1006_3).length false), (12, ((SL 1 I) a1)), (13, (I (a1.length : Int))), (14, (I v14_3))] [(1, some (g1_2, .map (encM EdK I m1_3))), (1006, some (g1006_2, .buf 2 (l1006_3.map EdA)))]) (fun p => match p with | (n2, v14_3, m1_3, l1006_3, g1_2, g1006_2) => p_seek_tree_at_L1 K a1 a0 n2 v14_3 m1_3 l1006_3 = some o1) (fun p => p.1) ?_ (K, 0, (Mp.empty : (Mp Ed Int)), [], _, _) hy _
  rintro ⟨n2, v14_3, m1_3, l1006_3, g1_2, g1006_2⟩ cl hy
  cases n2 with | zero => cases hy | succ n2 => ?_
  change At _ cl (mk _ _) _
  replace hy : p_seek_tree_at_L1 K a1 a0 (n2+1) v14_3 m1_3 l1006_3 = some o1 := hy
  rw [p_seek_tree_at_L1] at hy
  refine reg 1 r <| bn r r r r r <| dn <| at_seq <| cd r (fun h3 => ?_) (fun h3 => ?_)
  ·replace hy := ifT hy h3
   refine at_skip <| ?_
   obtain ⟨o3, hy, k3, hk3, hc3⟩ := bndK hy
   refine meetI (fun (p : (Mp Ed Int) × (List Ed) × Nat × Nat) => match p with | (m1_2, l1006_2, g1_3, g1006_3) => mk [(0, ((FP Seek_tree_A) a0)), (5, .mp 1 g1_3), (6, .own 1006 g1006_3 2 0 (l1006_2).length false), (12, ((SL 1 I) a1)), (13, (I (a1.length : Int))), (14, (I v14_3))] [(1, some (g1_3, .map (encM EdK I m1_2))), (1006, some (g1006_3, .buf 2 (l1006_2.map EdA)))]) (fun p => match p with | (m1_2, l1006_2, g1_3, g1006_3) => k3 (m1_2, l1006_2) = some o1) ?_ ?_
   ·skip
    refine at_block <| reg 3 r <| ?_
    obtain ⟨i1, v2, qi1, xv2, hy⟩ := ixI hy
    refine fixP (f := I) sl29 qi1 xv2 r r r r <| fld tk3 r r r r <| asg r r r <| dn <| reg 8 r <| mv r r r <| fnck r r r <| ffa fo64_3 r r r <| fld tk62 r r r r <| mv r r r <| lkFZ (ev := (SL 2 EdA)) (m := a0.outside) (z0 := []) (kInt ui3) mt62 zo41 (fun _ => Option.some_ne_none _) nil_lst r r r r r <| lnf (f := EdA) slB41 r r r <| mv r r r <| dn <| at_block <| wk (T' := [(0, ((FP Seek_tree_A) a0)), (5, .mp 1 _), (6, .own 1006 _ 2 0 (l1006_3).length false), (12, ((SL 1 I) a1)), (13, (I (a1.length : Int))), (14, (I v14_3)), (23, ((SL 2 EdA) ((a0.outside.get? v2).getD []))), (24, (I (((a0.outside.get? v2).getD []).length : Int))), (25, (I 0))]) (H' := [(1, some (_, .map (encM EdK I m1_3))), (1006, some (_, .buf 2 (l1006_3.map EdA)))]) (.k r r (.k r r (.k r r (.k r r (.k r r (.k r r (.k r r (.k r r (.k r r .nil))))))))) (.k r r (.k r r .nil)) <| loopI (fun (p : Nat × (List Ed) × Int × Int × (Mp Ed Int) × (List Ed) × Nat × Nat) => match p with | (n4, v23_1, v24_1, v25_1, m1_1, l1006_1, g1_4, g1006_4) => mk [(0, ((FP Seek_tree_A) a0)), (5, .mp 1 g1_4), (6, .own 1006 g1006_4 2 0 (l1006_1).length false), (12, ((SL 1 I) a1)), (13, (I (a1.length : Int))), (14, (I v14_3)), (23, ((SL 2 EdA) v23_1)), (24, (I v24_1)), (25, (I v25_1))] [(1, some (g1_4, .map (encM EdK I m1_1))), (1006, some (g1006_4, .buf 2 (l1006_1.map EdA)))]) (fun p => match p with | (n4, v23_1, v24_1, v25_1, m1_1, l1006_1, g1_4, g1006_4) => p_seek_tree_at_L2 K  n4 v23_1 v24_1 v25_1 m1_1 l1006_1 = some o3) (fun p => p.1) ?_ (K, ((a0.outside.get? v2).getD []), (((a0.outside.get? v2).getD []).length : Int), 0, m1_3, l1006_3, _, _) hy _
    rintro ⟨n4, v23_1, v24_1, v25_1, m1_1, l1006_1, g1_4, g1006_4⟩ cl hy
    cases n4 with | zero => cases hy | succ n4 => ?_
    change At _ cl (mk _ _) _
    replace hy : p_seek_tree_at_L2 K  (n4+1) v23_1 v24_1 v25_1 m1_1 l1006_1 = some o3 := hy
    rw [p_seek_tree_at_L2] at hy
    refine reg 1 r <| bn r r r r r <| dn <| at_seq <| cd r (fun h6 => ?_) (fun h6 => ?_)
    ·replace hy := ifT hy h6
     refine at_skip <| at_seq <| at_block <| reg 4 r <| ?_
     obtain ⟨i3, v4, qi3, xv4, hy⟩ := ixI hy
     refine fixP (f := EdA) sl41 qi3 xv4 r r r r <| fldw tk47 r r r r <| rg_alloc (s := 2) (gd_of r) zc47 (elems_one (by rfl)) (lt_ok r) <| str tk47 r r r r r r r <| dn <| incX (ek := EdK) (m := m1_1) (q := v4) mixed kEd mt95 zo3 r r r ⟨r, r, r⟩ (fun _ _ _ h => ldw tk47 r r r r r r (dn h)) r r r r <| reg 4 r <| mv r r r <| ldw tk47 r r r r r r <| lkMZ (ev := I) (m := ((m1_1.touch v4 0).set v4 (w64 (((m1_1.get? v4).getD 0) + 1)))) (z0 := 0) kEd mt95 zo3 (fun _ => Option.some_ne_none _) (fun _ _ h => h) r r r r r r <| bn r r r r r <| dn <| cd r (fun h7 => ?_) (fun h7 => ?_)
     ·replace hy := ifT hy h7
      refine reg1 5 r <| mv r r r <| ldw tk47 r r r r r r <| bldsP EdA ([v4] : List Ed) 3 se41 r r r r r r r <| ?_
      obtain ⟨k5a, k5b, hy⟩ := apI hy
      refine apoP (f := EdA) (l := l1006_1) (zs := [v4]) se41 k5a k5b r r r r r r <| asg r r r <| dn <| at_bn <| reg1 2 r <| bn r r r r r <| mv r r r <| dn <| againI (n4, v23_1, v24_1, (w64 (v25_1 + 1)), ((m1_1.touch v4 0).set v4 (w64 (((m1_1.get? v4).getD 0) + 1))), (l1006_1 ++ [v4]), _, _) r hy (Nat.lt_succ_self _) (.k r r (.k r r (.k r r (.k r r (.k r r (.k r r (.k r r (.k r r (.k r r .nil))))))))) (.k r r (.k r r .nil))
     ·replace hy := ifF hy h7
      refine at_skip <| at_bn <| reg1 2 r <| bn r r r r r <| mv r r r <| dn <| againI (n4, v23_1, v24_1, (w64 (v25_1 + 1)), ((m1_1.touch v4 0).set v4 (w64 (((m1_1.get? v4).getD 0) + 1))), l1006_1, _, _) r hy (Nat.lt_succ_self _) (.k r r (.k r r (.k r r (.k r r (.k r r (.k r r (.k r r (.k r r (.k r r .nil))))))))) (.k r r (.k r r .nil))
    ·replace hy := ifF hy h6
     refine at_exit <| at_te <| at_te <| at_inBlock <| at_bn <| ?_
     replace hy := sj hy
     subst hy
     refine metI (m1_1, l1006_1, _, _) r hc3 (.k r r (.k r r (.k r r (.k r r (.k r r (.k r r .nil)))))) (.k r r (.k r r .nil))
   ·rintro ⟨m1_2, l1006_2, g1_3, g1006_3⟩ cl hy
    subst hk3
    change At _ cl (mk _ _) _
    refine reg1 2 r <| bn r r r r r <| mv r r r <| dn <| againI (n2, (w64 (v14_3 + 1)), m1_2, l1006_2, _, _) r hy (Nat.lt_succ_self _) (.k r r (.k r r (.k r r (.k r r (.k r r (.k r r .nil)))))) (.k r r (.k r r .nil))
  ·replace hy := ifF hy h3
   refine at_exit <| at_te <| at_te <| at_inBlock <| ?_
   replace hy := sj hy
   subst hy
   refine metI (l1006_3, _) r hc1 (.k r r .nil) (.k r r .nil)
 ·rintro ⟨l1006_4, g1006_1⟩ cl hy
  subst hk1
  change At _ cl (mk _ _) _
  refine reg 2 r <| mv r r r <| ?_
  obtain ⟨r6, qr6, hy⟩ := bndI hy
  obtain ⟨tr6, hy⟩ := lenI hy
  refine clo1 (s := 1006) (w_slices_SortFunc_Sapi_Edge_api_Edge (a1h := fun h => w_seek_tree_at_1 h) (a1k := ca57) (a1l := ⟨r, r⟩) (a1p := .nil) (a1q := .nil) qr6) ca56 r (.tup .nil) r r pu_Ed ?_ r ?_
  ·exact .cons _ _ _ _ (rnOwn (List.Mem.head _) (by first | rfl | simp)) (.cons _ _ _ _ (.pu _ (pu_fn (.nil) (.nil))) (.nil))
  refine teq 6 (y := .own 1006 _ 2 0 r6.length false) r (by first | rw [tr6] | simp [tr6]) <| teq 45 (y := .own 1006 _ 2 0 r6.length false) r (by first | rw [tr6] | simp [tr6]) <| dn <| reg 2 r <| mv r r r <| asg r r r <| dn <| at_ret <| frzP (f := EdA) (l := r6) 4 1006 r r pu_Ed <| ?_
  replace hy := sj hy
  subst hy
  exact out1 r (.inl r) (look_of r) r ((pu_l 2 pu_Ed) _)
def p_seek_tree_at_n_L2 (K : Nat)  : Nat → (List Ed) → Int → Int → (Mp Ed Int) → (List Ed) → Option ((Mp Ed Int) × (List Ed))
 | 0, _, _, _, _, _ => none
 | n+1, v23_1, v24_1, v25_1, m1_1, l1006_1 => (bif (decide (v25_1 < v24_1)) then (ixP v23_1 v25_1 fun v4 => (bif (((((m1_1.touch v4 0).set v4 (w64 (((m1_1.get? v4).getD 0) + 1))).get? v4).getD 0) == 1) then (apP 16 l1006_1.length [v4].length (p_seek_tree_at_n_L2 K  n v23_1 v24_1 (w64 (v25_1 + 1)) ((m1_1.touch v4 0).set v4 (w64 (((m1_1.get? v4).getD 0) + 1))) (l1006_1 ++ [v4]))) else p_seek_tree_at_n_L2 K  n v23_1 v24_1 (w64 (v25_1 + 1)) ((m1_1.touch v4 0).set v4 (w64 (((m1_1.get? v4).getD 0) + 1))) l1006_1)) else some (m1_1, l1006_1))
def p_seek_tree_at_n_L1 (K : Nat) (a1 : (List Int)) (a0 : Seek_tree_) : Nat → Int → (Mp Ed Int) → (List Ed) → Option (List Ed)
 | 0, _, _, _ => none
 | n+1, v14_3, m1_3, l1006_3 => (bif (decide (v14_3 < (a1.length : Int))) then (((ixP a1 v14_3 fun v2 => p_seek_tree_at_n_L2 K  K ((a0.outside.get? v2).getD []) (((a0.outside.get? v2).getD []).length : Int) 0 m1_3 l1006_3) : Option ((Mp Ed Int) × (List Ed))).bind fun (m1_2, l1006_2) => p_seek_tree_at_n_L1 K a1 a0 n (w64 (v14_3 + 1)) m1_2 l1006_2) else some l1006_3)
def p_seek_tree_at_n (K : Nat) (a0 : Seek_tree_) (a1 : (List Int)) : Option (List Ed) :=
 ((p_seek_tree_at_n_L1 K a1 a0 K 0 (Mp.empty : (Mp Ed Int)) [] : Option (List Ed)).bind fun l1006_4 => ((p_slices_SortFunc_Sapi_Edge_api_Edge K l1006_4 (fun (x0 : Ed) (x1 : Ed) => p_seek_tree_at_1 K x0 x1)).bind fun r6 => lenP l1006_4 r6 (some r6)))
theorem w_seek_tree_at_n {K : Nat} {a0 : Seek_tree_} {a1 : (List Int)} {y : (List Ed)} (hy : p_seek_tree_at_n K a0 a1 = some y) : Does PP GV 30 [] [((FP Seek_tree_A) a0), ((SL 1 I) a1)] [] [.buf 2 (y.map EdA)] (.own 0 0 2 0 y.length false) := by
 unfold p_seek_tree_at_n at hy
 refine does_of at30 r (le_ok r) <| ?_
 rintro ⟨_, base, w0, F⟩ rfl
 refine reg 1 r <| asg r r r <| dn <| reg 2 r <| mkM (κ := Ed) (ν := Int) EdK I 1 r r <| asg r r r <| dn <| reg 1 r <| asg r r r <| dn <| ?_
 obtain ⟨o1, hy, k1, hk1, hc1⟩ := bndK hy
 refine meetI (fun (p : (List Ed) × Nat) => match p with | (l1006_4, g1006_1) => mk [(6, .own 1006 g1006_1 2 0 (l1006_4).length false)] [(1006, some (g1006_1, .buf 2 (l1006_4.map EdA)))]) (fun p => match p with | (l1006_4, g1006_1) => k1 l1006_4 = some y) ?_ ?_
 ·skip
  refine reg 3 r <| mv r r r <| lnf (f := I) slB29 r r r <| mv r r r <| dn <| at_block <| niloP (EdA) 6 1006 2 r <| wk (T' := [(0, ((FP Seek_tree_A) a0)), (5, .mp 1 _), (6, .own 1006 _ 2 0 ([]).length false), (12, ((SL 1 I) a1)), (13, (I (a1.length : Int))), (14, (I 0))]) (H' := [(1, some (_, .map (encM EdK I (Mp.empty : (Mp Ed Int))))), (1006, some (_, .buf 2 ([].map EdA)))]) (.k r r (.k r r (.k r r (.k r r (.k r r (.k r r .nil)))))) (.k r r (.k r r .nil)) <| loopI (fun (p : Nat × Int × (Mp Ed Int) × (List Ed) × Nat × Nat) => match p with | (n2, v14_3, m1_3, l1006_3, g1_2, g1006_2) => mk [(0, ((FP Seek_tree_A) a0)), (5, .mp 1 g1_2), (6, .own 1006 g1006_2 2 0 (l1006_3).length false), (12, ((SL 1 I) a1)), (13, (I (a1.length : Int))), (14, (I v14_3))] [(1, some (g1_2, .map (encM EdK I m1_3))), (1006, some (g1006_2, .buf 2 (l1006_3.map EdA)))]) (fun p => match p with | (n2, v14_3, m1_3, l1006_3, g1_2, g1006_2) => p_seek_tree_at_n_L1 K a1 a0 n2 v14_3 m1_3 l1006_3 = some o1) (fun p => p.1) ?_ (K, 0, (Mp.empty : (Mp Ed Int)), [], _, _) hy _
  rintro ⟨n2, v14_3, m1_3, l1006_3, g1_2, g1006_2⟩ cl hy
  cases n2 with | zero => cases hy | succ n2 => ?_
  change At _ cl (mk _ _) _
  replace hy : p_seek_tree_at_n_L1 K a1 a0 (n2+1) v14_3 m1_3 l1006_3 = some o1 := hy
  rw [p_seek_tree_at_n_L1] at hy
  refine reg 1 r <| bn r r r r r <| dn <| at_seq <| cd r (fun h3 => ?_) (fun h3 => ?_)
  ·replace hy := ifT hy h3
   refine at_skip <| ?_
   obtain ⟨o3, hy, k3, hk3, hc3⟩ := bndK hy
   refine meetI (fun (p : (Mp Ed Int) × (List Ed) × Nat × Nat) => match p with | (m1_2, l1006_2, g1_3, g1006_3) => mk [(0, ((FP Seek_tree_A) a0)), (5, .mp 1 g1_3), (6, .own 1006 g1006_3 2 0 (l1006_2).length false), (12, ((SL 1 I) a1)), (13, (I (a1.length : Int))), (14, (I v14_3))] [(1, some (g1_3, .map (encM EdK I m1_2))), (1006, some (g1006_3, .buf 2 (l1006_2.map EdA)))]) (fun p => match p with | (m1_2, l1006_2, g1_3, g1006_3) => k3 (m1_2, l1006_2) = some o1) ?_ ?_
   ·skip
    refine at_block <| reg 3 r <| ?_
    obtain ⟨i1, v2, qi1, xv2, hy⟩ := ixI hy
    refine fixP (f := I) sl29 qi1 xv2 r r r r <| fld tk3 r r r r <| asg r r r <| dn <| reg 8 r <| mv r r r <| fnck r r r <| ffa fo64_3 r r r <| fld tk62 r r r r <| mv r r r <| lkFZ (ev := (SL 2 EdA)) (m := a0.outside) (z0 := []) (kInt ui3) mt62 zo41 (fun _ => Option.some_ne_none _) nil_lst r r r r r <| lnf (f := EdA) slB41 r r r <| mv r r r <| dn <| at_block <| wk (T' := [(0, ((FP Seek_tree_A) a0)), (5, .mp 1 _), (6, .own 1006 _ 2 0 (l1006_3).length false), (12, ((SL 1 I) a1)), (13, (I (a1.length : Int))), (14, (I v14_3)), (23, ((SL 2 EdA) ((a0.outside.get? v2).getD []))), (24, (I (((a0.outside.get? v2).getD []).length : Int))), (25, (I 0))]) (H' := [(1, some (_, .map (encM EdK I m1_3))), (1006, some (_, .buf 2 (l1006_3.map EdA)))]) (.k r r (.k r r (.k r r (.k r r (.k r r (.k r r (.k r r (.k r r (.k r r .nil))))))))) (.k r r (.k r r .nil)) <| loopI (fun (p : Nat × (List Ed) × Int × Int × (Mp Ed Int) × (List Ed) × Nat × Nat) => match p with | (n4, v23_1, v24_1, v25_1, m1_1, l1006_1, g1_4, g1006_4) => mk [(0, ((FP Seek_tree_A) a0)), (5, .mp 1 g1_4), (6, .own 1006 g1006_4 2 0 (l1006_1).length false), (12, ((SL 1 I) a1)), (13, (I (a1.length : Int))), (14, (I v14_3)), (23, ((SL 2 EdA) v23_1)), (24, (I v24_1)), (25, (I v25_1))] [(1, some (g1_4, .map (encM EdK I m1_1))), (1006, some (g1006_4, .buf 2 (l1006_1.map EdA)))]) (fun p => match p with | (n4, v23_1, v24_1, v25_1, m1_1, l1006_1, g1_4, g1006_4) => p_seek_tree_at_n_L2 K  n4 v23_1 v24_1 v25_1 m1_1 l1006_1 = some o3) (fun p => p.1) ?_ (K, ((a0.outside.get? v2).getD []), (((a0.outside.get? v2).getD []).length : Int), 0, m1_3, l1006_3, _, _) hy _
    rintro ⟨n4, v23_1, v24_1, v25_1, m1_1, l1006_1, g1_4, g1006_4⟩ cl hy
    cases n4 with | zero => cases hy | succ n4 => ?_
    change At _ cl (mk _ _) _
    replace hy : p_seek_tree_at_n_L2 K  (n4+1) v23_1 v24_1 v25_1 m1_1 l1006_1 = some o3 := hy
    rw [p_seek_tree_at_n_L2] at hy
    refine reg 1 r <| bn r r r r r <| dn <| at_seq <| cd r (fun h6 => ?_) (fun h6 => ?_)
    ·replace hy := ifT hy h6
     refine at_skip <| at_seq <| at_block <| reg 4 r <| ?_
     obtain ⟨i3, v4, qi3, xv4, hy⟩ := ixI hy
     refine fixP (f := EdA) sl41 qi3 xv4 r r r r <| fldw tk47 r r r r <| rg_alloc (s := 2) (gd_of r) zc47 (elems_one (by rfl)) (lt_ok r) <| str tk47 r r r r r r r <| dn <| incX (ek := EdK) (m := m1_1) (q := v4) mixed kEd mt95 zo3 r r r ⟨r, r, r⟩ (fun _ _ _ h => ldw tk47 r r r r r r (dn h)) r r r r <| reg 4 r <| mv r r r <| ldw tk47 r r r r r r <| lkMZ (ev := I) (m := ((m1_1.touch v4 0).set v4 (w64 (((m1_1.get? v4).getD 0) + 1)))) (z0 := 0) kEd mt95 zo3 (fun _ => Option.some_ne_none _) (fun _ _ h => h) r r r r r r <| bn r r r r r <| dn <| cd r (fun h7 => ?_) (fun h7 => ?_)
     ·replace hy := ifT hy h7
      refine reg1 5 r <| mv r r r <| ldw tk47 r r r r r r <| bldsP EdA ([v4] : List Ed) 3 se41 r r r r r r r <| ?_
      obtain ⟨k5a, k5b, hy⟩ := apI hy
      refine apoP (f := EdA) (l := l1006_1) (zs := [v4]) se41 k5a k5b r r r r r r <| asg r r r <| dn <| at_bn <| reg1 2 r <| bn r r r r r <| mv r r r <| dn <| againI (n4, v23_1, v24_1, (w64 (v25_1 + 1)), ((m1_1.touch v4 0).set v4 (w64 (((m1_1.get? v4).getD 0) + 1))), (l1006_1 ++ [v4]), _, _) r hy (Nat.lt_succ_self _) (.k r r (.k r r (.k r r (.k r r (.k r r (.k r r (.k r r (.k r r (.k r r .nil))))))))) (.k r r (.k r r .nil))
     ·replace hy := ifF hy h7
      refine at_skip <| at_bn <| reg1 2 r <| bn r r r r r <| mv r r r <| dn <| againI (n4, v23_1, v24_1, (w64 (v25_1 + 1)), ((m1_1.touch v4 0).set v4 (w64 (((m1_1.get? v4).getD 0) + 1))), l1006_1, _, _) r hy (Nat.lt_succ_self _) (.k r r (.k r r (.k r r (.k r r (.k r r (.k r r (.k r r (.k r r (.k r r .nil))))))))) (.k r r (.k r r .nil))
    ·replace hy := ifF hy h6
     refine at_exit <| at_te <| at_te <| at_inBlock <| at_bn <| ?_
     replace hy := sj hy
     subst hy
     refine metI (m1_1, l1006_1, _, _) r hc3 (.k r r (.k r r (.k r r (.k r r (.k r r (.k r r .nil)))))) (.k r r (.k r r .nil))
   ·rintro ⟨m1_2, l1006_2, g1_3, g1006_3⟩ cl hy
    subst hk3
    change At _ cl (mk _ _) _
    refine reg1 2 r <| bn r r r r r <| mv r r r <| dn <| againI (n2, (w64 (v14_3 + 1)), m1_2, l1006_2, _, _) r hy (Nat.lt_succ_self _) (.k r r (.k r r (.k r r (.k r r (.k r r (.k r r .nil)))))) (.k r r (.k r r .nil))
  ·replace hy := ifF hy h3
   refine at_exit <| at_te <| at_te <| at_inBlock <| ?_
   replace hy := sj hy
   subst hy
   refine metI (l1006_3, _) r hc1 (.k r r .nil) (.k r r .nil)
 ·rintro ⟨l1006_4, g1006_1⟩ cl hy
  subst hk1
  change At _ cl (mk _ _) _
  refine reg 2 r <| mv r r r <| ?_
  obtain ⟨r6, qr6, hy⟩ := bndI hy
  obtain ⟨tr6, hy⟩ := lenI hy
  refine clo1 (s := 1006) (w_slices_SortFunc_Sapi_Edge_api_Edge (a1h := fun h => w_seek_tree_at_1 h) (a1k := ca57) (a1l := ⟨r, r⟩) (a1p := .nil) (a1q := .nil) qr6) ca56 r (.tup .nil) r r pu_Ed ?_ r ?_
  ·exact .cons _ _ _ _ (rnOwn (List.Mem.head _) (by first | rfl | simp)) (.cons _ _ _ _ (.pu _ (pu_fn (.nil) (.nil))) (.nil))
  refine teq 6 (y := .own 1006 _ 2 0 r6.length false) r (by first | rw [tr6] | simp [tr6]) <| teq 45 (y := .own 1006 _ 2 0 r6.length false) r (by first | rw [tr6] | simp [tr6]) <| dn <| reg 2 r <| mv r r r <| asg r r r <| dn <| at_ret <| ?_
  replace hy := sj hy
  subst hy
  exact outN (g1 := EdA) r (.inl r) r r pu_Ed
end Go.Ar
namespace Go.Ar
open Go.RowKit
def p_seek_Round (K : Nat) (a0 : Gr) (a1 : Int) (a2 : Int) (a3 : Int) : Option ((List Ed) × Int) :=
 ((p_seek_seen K a0 a1 a2).bind fun r1 => (bif (r1.2 != 0) then some ([], r1.2) else (r1.1.bind fun v2 => ((p_seek_tree_starts K v2).bind fun r3 => (slP r3 0 (if 0 < (if (r3.length : Int) < a3 then (r3.length : Int) else a3) then (if (r3.length : Int) < a3 then (r3.length : Int) else a3) else 0) fun v6 => ((p_seek_tree_at K v2 v6).bind fun r7 => some (r7, 0)))))))
theorem w_seek_Round {K : Nat} {a0 : Gr} {a1 : Int} {a2 : Int} {a3 : Int} {y : ((List Ed) × Int)} (hy : p_seek_Round K a0 a1 a2 a3 = some y) : Does PP GV 12 [] [(GrA a0), (I a1), (I a2), (I a3)] [] [] (.tup [((SL 2 EdA) y.1), (I y.2)]) := by
 unfold p_seek_Round at hy
 refine does_of at12 r (le_ok r) <| ?_
 rintro ⟨_, base, w0, F⟩ rfl
 refine reg 3 r <| bx 1 r r r r <| asg r r r <| asg r r r <| dn <| reg 9 r <| ldw tk24 r r r r r r <| mv r r r <| mv r r r <| ?_
 obtain ⟨r1, qr1, hy⟩ := bndI hy
 refine clp (w_seek_seen qr1) ca17 r r (.cons (pu_Gr _) (.cons (pu_I _) (.cons (pu_I _) (.nil)))) (.tup (.cons ((pu_po pu_Seek_tree_) _) (.cons (pu_I _) (.nil)))) r <| mv r r r <| ext r r r r <| ext r r r r <| asg r r r <| asg r r r <| dn <| at_seq <| reg 2 r <| mv r r r <| bn r r r r r <| dn <| cd r (fun h1 => ?_) (fun h1 => ?_)
 ·replace hy := ifT hy h1
  refine reg 3 r <| mv r r r <| asg r r r <| asg r r r <| dn <| at_ret <| atnilP (EdA) 8 2 r <| ?_
  replace hy := sj hy
  subst hy
  exact outs (rs := [8, 9]) (res2 r) (by simp) (.inl r) (looks_of r) r (.cons ((pu_l 2 pu_Ed) _) (.cons (pu_I _) (.nil)))
 ·replace hy := ifF hy h1
  refine at_skip <| reg 3 r <| mv r r r <| ?_
  obtain ⟨v2, xv2, hy⟩ := bndI hy
  refine teq 10 (y := FP Seek_tree_A v2) r (by rw [xv2]) <| teq 18 (y := FP Seek_tree_A v2) r (by rw [xv2]) <| teq 23 (y := FP Seek_tree_A v2) r (by rw [xv2]) <| ?_
  obtain ⟨r3, qr3, hy⟩ := bndI hy
  refine clp (w_seek_tree_starts qr3) ca29 r r (.cons ((pu_fp pu_Seek_tree_) _) (.nil)) (.one ((pu_l 1 pu_I) _)) r <| asg r r r <| dn <| reg 11 r <| mv r r r <| mv r r r <| mv r r r <| mv r r r <| lnf (f := I) slB29 r r r <| rg_min (gd_of r) (ev_of r) (ev_of r) (lt_ok r) <| rg_max (gd_of r) (ev_of r) (ev_of r) (lt_ok r) <| ?_
  obtain ⟨i4, i5, qi4, qi5, bi4, ci4, hy⟩ := slI hy
  refine fslhP (f := I) sl29 qi4 qi5 ci4 r r r r <| ?_
  generalize ((List.take i5 r3).drop i4) = v6 at hy ⊢
  obtain ⟨r7, qr7, hy⟩ := bndI hy
  refine clp (w_seek_tree_at qr7) ca30 r r (.cons ((pu_fp pu_Seek_tree_) _) (.cons ((pu_l 1 pu_I) _) (.nil))) (.one ((pu_l 2 pu_Ed) _)) r <| asg r r r <| asg r r r <| dn <| at_ret <| ?_
  replace hy := sj hy
  subst hy
  exact outs (rs := [8, 9]) (res2 r) (by simp) (.inl r) (looks_of r) r (.cons ((pu_l 2 pu_Ed) _) (.cons (pu_I _) (.nil)))
def p_seek_Out (K : Nat) (a0 : Gr) (a1 : Int) (a2 : Int) : Option ((List Ed) × Int) :=
 ((p_seek_seen K a0 a1 a2).bind fun r1 => (bif (r1.2 != 0) then some ([], r1.2) else (r1.1.bind fun v2 => ((p_seek_tree_starts K v2).bind fun r3 => ((p_seek_tree_at_n K v2 r3).bind fun r4 => ((p_slices_DeleteFunc_Sapi_Edge_api_Edge K r4 (fun (x0 : Ed) => p_seek_Out_1 K x0 v2)).bind fun r5 => guP (r5.1 ≤ r5.2.length) (some ((List.take r5.1 r5.2), 0))))))))
theorem w_seek_Out {K : Nat} {a0 : Gr} {a1 : Int} {a2 : Int} {y : ((List Ed) × Int)} (hy : p_seek_Out K a0 a1 a2 = some y) : Does PP GV 15 [] [(GrA a0), (I a1), (I a2)] [] [] (.tup [((SL 2 EdA) y.1), (I y.2)]) := by
 unfold p_seek_Out at hy
 refine does_of at15 r (le_ok r) <| ?_
 rintro ⟨_, base, w0, F⟩ rfl
 refine reg 3 r <| bx 1 r r r r <| asg r r r <| asg r r r <| dn <| reg 10 r <| ldw tk24 r r r r r r <| mv r r r <| mv r r r <| ?_
 obtain ⟨r1, qr1, hy⟩ := bndI hy
 refine clp (w_seek_seen qr1) ca17 r r (.cons (pu_Gr _) (.cons (pu_I _) (.cons (pu_I _) (.nil)))) (.tup (.cons ((pu_po pu_Seek_tree_) _) (.cons (pu_I _) (.nil)))) r <| mv r r r <| ext r r r r <| ext r r r r <| rg_alloc (s := 2) (gd_of r) zc56 (elems_one (by rfl)) (lt_ok r) <| str (e' := ((PO Seek_tree_A) r1.1)) tk56 r r r r (by cases r1.1 <;> rfl) r (by cases r1.1 <;> rfl) <| asg r r r <| dn <| at_seq <| reg 2 r <| mv r r r <| bn r r r r r <| dn <| cd r (fun h1 => ?_) (fun h1 => ?_)
 ·replace hy := ifT hy h1
  refine reg 3 r <| mv r r r <| asg r r r <| asg r r r <| dn <| at_ret <| atnilP (EdA) 6 2 r <| ?_
  replace hy := sj hy
  subst hy
  exact outs (rs := [6, 7]) (res2 r) (by simp) (.inl r) (looks_of r) r (.cons ((pu_l 2 pu_Ed) _) (.cons (pu_I _) (.nil)))
 ·replace hy := ifF hy h1
  refine at_skip <| ?_
  obtain ⟨v2, xv2, hy⟩ := bndI hy
  refine heqA 2 (o' := .buf 1 [FP Seek_tree_A v2]) r (by first | (rw [xv2]; done) | (rw [xv2]; rfl)) <| frzB (e := ((FP Seek_tree_A) v2)) 8 2 r r ((pu_fp pu_Seek_tree_) _) <| regd mixed 8 r <| fld tk56 r r r r <| fld tk56 r r r r <| ?_
  obtain ⟨r3, qr3, hy⟩ := bndI hy
  refine clp (w_seek_tree_starts qr3) ca29 r r (.cons ((pu_fp pu_Seek_tree_) _) (.nil)) (.one ((pu_l 1 pu_I) _)) r <| ?_
  obtain ⟨r4, qr4, hy⟩ := bndI hy
  refine clN (g1 := EdA) 3 (w_seek_tree_at_n qr4) ca30 r r pu_Ed (.cons ((pu_fp pu_Seek_tree_) _) (.cons ((pu_l 1 pu_I) _) (.nil))) r <| rg_makeFunc (gd_of r) (evL_of r) (evL_of r) r (lt_ok r) <| ?_
  obtain ⟨r5, qr5, hy⟩ := bndI hy
  refine cloW (s := 3) (w_slices_DeleteFunc_Sapi_Edge_api_Edge (a1h := fun h => w_seek_Out_1 h) (a1k := ca34) (a1l := ⟨r, r⟩) (a1p := .nil) (a1q := .cons ((pu_fp (pu_fp pu_Seek_tree_)) _) (.nil)) qr5) ca33 r r r pu_Ed ?_ r ?_
  ·exact .cons _ _ _ _ (rnOwn (List.Mem.head _) (by first | rfl | simp)) (.cons _ _ _ _ (.pu _ (pu_fn (.nil) (.cons ((pu_fp (pu_fp pu_Seek_tree_)) _) (.nil)))) (.nil))
  obtain ⟨k6, hy⟩ := guI hy
  refine asg r r r <| asg r r r <| dn ⟨by kernel_rfl, ?_⟩
  refine at_ret <| frzS (f := EdA) (l := r5.2) 6 3 r r pu_Ed k6 <| ?_
  replace hy := sj hy
  subst hy
  exact outs (rs := [6, 7]) (res2 r) (by simp) (.inl r) (looks_of r) r (.cons ((pu_l 2 pu_Ed) _) (.cons (pu_I _) (.nil)))
def p_seek_Seek_L1 (K : Nat)  : Nat → Seek_tree_ → (List Int) → Bool → Int → Int → Int → Int → Option (Bool × Int × Int × Int × Int)
 | 0, _, _, _, _, _, _, _ => none
 | n+1, v8_1, v9_1, v2_1, v2_1_1, v2_1_2, v2_1_3, v2_1_4 => (bif (!v2_1) then (bif (decide (v2_1_4 < (v9_1.length : Int))) then (nnP (IntKind.u64.wrap v2_1_3) ((slP v9_1 0 (if (shlV .i64 1 (IntKind.u64.wrap v2_1_3)) < (v9_1.length : Int) then (shlV .i64 1 (IntKind.u64.wrap v2_1_3)) else (v9_1.length : Int)) fun v7 => ((p_seek_tree_at K v8_1 v7).bind fun r8 => ((p_slices_IndexFunc_Sapi_Edge_api_Edge K r8 (fun (x0 : Ed) => p_seek_tree_leads K v8_1 x0)).bind fun r9 => (bif (decide (r9 ≥ 0)) then (ixP r8 r9 fun v11 => p_seek_Seek_L1 K  n v8_1 v9_1 true v11.u v11.v (w64 (v2_1_3 + 1)) (if (shlV .i64 1 (IntKind.u64.wrap v2_1_3)) < (v9_1.length : Int) then (shlV .i64 1 (IntKind.u64.wrap v2_1_3)) else (v9_1.length : Int))) else p_seek_Seek_L1 K  n v8_1 v9_1 v2_1 v2_1_1 v2_1_2 (w64 (v2_1_3 + 1)) (if (shlV .i64 1 (IntKind.u64.wrap v2_1_3)) < (v9_1.length : Int) then (shlV .i64 1 (IntKind.u64.wrap v2_1_3)) else (v9_1.length : Int)))))))) else some (v2_1, v2_1_1, v2_1_2, v2_1_3, v2_1_4)) else some (v2_1, v2_1_1, v2_1_2, v2_1_3, v2_1_4))
def p_seek_Seek (K : Nat) (a0 : Gr) (a1 : Int) (a2 : Int) : Option (Lo × Int) :=
 ((p_seek_seen K a0 a1 a2).bind fun r1 => (bif (r1.2 != 0) then some ((Lo.mk (Lo.mk false (Ed.mk 0 0) 0 0).found (Ed.mk (Lo.mk false (Ed.mk 0 0) 0 0).by_.u (Lo.mk false (Ed.mk 0 0) 0 0).by_.v) (Lo.mk false (Ed.mk 0 0) 0 0).rounds (Lo.mk false (Ed.mk 0 0) 0 0).nodes), r1.2) else (r1.1.bind fun v2 => ((p_seek_tree_starts K v2).bind fun r3 => ((p_seek_Seek_L1 K  K v2 r3 false 0 0 0 0 : Option (Bool × Int × Int × Int × Int)).bind fun (v2_2, v2_2_1, v2_2_2, v2_2_3, v2_2_4) => some ((Lo.mk (Lo.mk v2_2 (Ed.mk v2_2_1 v2_2_2) v2_2_3 v2_2_4).found (Ed.mk (Lo.mk v2_2 (Ed.mk v2_2_1 v2_2_2) v2_2_3 v2_2_4).by_.u (Lo.mk v2_2 (Ed.mk v2_2_1 v2_2_2) v2_2_3 v2_2_4).by_.v) (Lo.mk v2_2 (Ed.mk v2_2_1 v2_2_2) v2_2_3 v2_2_4).rounds (Lo.mk v2_2 (Ed.mk v2_2_1 v2_2_2) v2_2_3 v2_2_4).nodes), 0))))))
theorem w_seek_Seek {K : Nat} {a0 : Gr} {a1 : Int} {a2 : Int} {y : (Lo × Int)} (hy : p_seek_Seek K a0 a1 a2 = some y) : Does PP GV 14 [] [(GrA a0), (I a1), (I a2)] [] [] (.tup [(LoA y.1), (I y.2)]) := by
 unfold p_seek_Seek at hy
 refine does_of at14 r (le_ok r) <| ?_
 rintro ⟨_, base, w0, F⟩ rfl
 refine reg 3 r <| bx 1 r r r r <| rg_alloc (s := 2) (gd_of r) zc50 (elems_one (by rfl)) (lt_ok r) <| asg r r r <| dn <| reg 9 r <| ldw tk24 r r r r r r <| mv r r r <| mv r r r <| ?_
 obtain ⟨r1, qr1, hy⟩ := bndI hy
 refine clp (w_seek_seen qr1) ca17 r r (.cons (pu_Gr _) (.cons (pu_I _) (.cons (pu_I _) (.nil)))) (.tup (.cons ((pu_po pu_Seek_tree_) _) (.cons (pu_I _) (.nil)))) r <| mv r r r <| ext r r r r <| ext r r r r <| asg r r r <| asg r r r <| dn <| at_seq <| reg 2 r <| mv r r r <| bn r r r r r <| dn <| cd r (fun h1 => ?_) (fun h1 => ?_)
 ·replace hy := ifT hy h1
  refine reg 4 r <| bld bd50 r r r r <| mv r r r <| str tk50 r r r r r r r <| asg r r r <| dn <| at_ret <| ?_
  replace hy := sj hy
  subst hy
  exact endZ [] (rs := [_, _]) r (by simp) (.inl r) (.cell _ _ _ _ _ _ _ _ _ _ _ _ _ r r r tk50 r (.tmp _ _ _ _ r .nil)) (by simp) (PuL.rn (xs := [(LoA (Lo.mk (Lo.mk false (Ed.mk 0 0) 0 0).found (Ed.mk (Lo.mk false (Ed.mk 0 0) 0 0).by_.u (Lo.mk false (Ed.mk 0 0) 0 0).by_.v) (Lo.mk false (Ed.mk 0 0) 0 0).rounds (Lo.mk false (Ed.mk 0 0) 0 0).nodes)), (I r1.2)]) (.cons (pu_Lo _) (.cons (pu_I _) (.nil))))
 ·replace hy := ifF hy h1
  refine at_skip <| reg 3 r <| mv r r r <| ?_
  obtain ⟨v2, xv2, hy⟩ := bndI hy
  refine teq 8 (y := FP Seek_tree_A v2) r (by rw [xv2]) <| teq 17 (y := FP Seek_tree_A v2) r (by rw [xv2]) <| teq 23 (y := FP Seek_tree_A v2) r (by rw [xv2]) <| ?_
  obtain ⟨r3, qr3, hy⟩ := bndI hy
  refine clp (w_seek_tree_starts qr3) ca29 r r (.cons ((pu_fp pu_Seek_tree_) _) (.nil)) (.one ((pu_l 1 pu_I) _)) r <| asg r r r <| dn <| ?_
  obtain ⟨o1, hy, k1, hk1, hc1⟩ := bndK hy
  refine meetI (fun (p : Bool × Int × Int × Int × Int × Nat) => match p with | (v2_2, v2_2_1, v2_2_2, v2_2_3, v2_2_4, g2_1) => mk [(6, .ptr 2 g2_1 0 0)] [(2, some (g2_1, .buf 5 [.agg [(B v2_2), (I v2_2_1), (I v2_2_2), (I v2_2_3), (I v2_2_4)]]))]) (fun p => match p with | (v2_2, v2_2_1, v2_2_2, v2_2_3, v2_2_4, g2_1) => k1 (v2_2, v2_2_1, v2_2_2, v2_2_3, v2_2_4) = some y) ?_ ?_
  ·skip
   refine at_block <| wk (T' := [(6, .ptr 2 _ 0 0), (8, ((FP Seek_tree_A) v2)), (9, ((SL 1 I) r3))]) (H' := [(2, some (_, .buf 5 [.agg [(B false), (I 0), (I 0), (I 0), (I 0)]]))]) (.k r r (.k r r (.k r r .nil))) (.k r r .nil) <| loopI (fun (p : Nat × Seek_tree_ × (List Int) × Bool × Int × Int × Int × Int × Nat) => match p with | (n2, v8_1, v9_1, v2_1, v2_1_1, v2_1_2, v2_1_3, v2_1_4, g2_2) => mk [(6, .ptr 2 g2_2 0 0), (8, ((FP Seek_tree_A) v8_1)), (9, ((SL 1 I) v9_1))] [(2, some (g2_2, .buf 5 [.agg [(B v2_1), (I v2_1_1), (I v2_1_2), (I v2_1_3), (I v2_1_4)]]))]) (fun p => match p with | (n2, v8_1, v9_1, v2_1, v2_1_1, v2_1_2, v2_1_3, v2_1_4, g2_2) => p_seek_Seek_L1 K  n2 v8_1 v9_1 v2_1 v2_1_1 v2_1_2 v2_1_3 v2_1_4 = some o1) (fun p => p.1) ?_ (K, v2, r3, false, 0, 0, 0, 0, _) hy _
   rintro ⟨n2, v8_1, v9_1, v2_1, v2_1_1, v2_1_2, v2_1_3, v2_1_4, g2_2⟩ cl hy
   cases n2 with | zero => cases hy | succ n2 => ?_
   change At _ cl (mk _ _) _
   replace hy : p_seek_Seek_L1 K  (n2+1) v8_1 v9_1 v2_1 v2_1_1 v2_1_2 v2_1_3 v2_1_4 = some o1 := hy
   rw [p_seek_Seek_L1] at hy
   refine at_seq <| reg 10 r <| fa fo50_0 r r r <| ld tk4 r r r r r r <| nt r r r <| mv r r r <| cas 28 r (fun h4 => ?_) (fun h4 => ?_)
   ·replace hy := ifT hy h4
    refine fa fo50_3 r r r <| ld tk3 r r r r r r <| mv r r r <| lnf (f := I) slB29 r r r <| bn r r r r r <| pkt r r r r r <| dn <| cd r (fun h5 => ?_) (fun h5 => ?_)
    ·replace hy := ifT hy h5
     refine at_skip <| at_block <| reg 9 r <| mv r r r <| lnf (f := I) slB29 r r r <| fa fo50_2 r r r <| ld tk3 r r r r r r <| rg_conv (gd_of r) (ev_of r) us3 ui76 (lt_ok r) <| ?_
     obtain ⟨k4, hy⟩ := nnI hy
     refine shl r r r r k4 <| rg_min (gd_of r) (ev_of r) (ev_of r) (lt_ok r) <| fa fo50_3 r r r <| str tk3 r r r r r r r <| dn <| reg 5 r <| fa fo50_2 r r r <| ld tk3 r r r r r r <| bn r r r r r <| fa fo50_2 r r r <| str tk3 r r r r r r r <| dn <| reg 7 r <| mv r r r <| mv r r r <| fa fo50_3 r r r <| ld tk3 r r r r r r <| ?_
     obtain ⟨i5, i6, qi5, qi6, bi5, ci5, hy⟩ := slI hy
     refine fslhP (f := I) sl29 qi5 qi6 ci5 r r r r <| ?_
     generalize ((List.take i6 v9_1).drop i5) = v7 at hy ⊢
     obtain ⟨r8, qr8, hy⟩ := bndI hy
     refine clp (w_seek_tree_at qr8) ca30 r r (.cons ((pu_fp pu_Seek_tree_) _) (.cons ((pu_l 1 pu_I) _) (.nil))) (.one ((pu_l 2 pu_Ed) _)) r <| asg r r r <| dn <| reg 5 r <| mv r r r <| mv r r r <| rg_makeFunc (gd_of r) (evL_of r) (evL_of r) r (lt_ok r) <| ?_
     obtain ⟨r9, qr9, hy⟩ := bndI hy
     refine clp (w_slices_IndexFunc_Sapi_Edge_api_Edge (a1h := fun h => w_seek_tree_leads h) (a1k := ca32) (a1l := ⟨r, r⟩) (a1p := .cons ((pu_fp pu_Seek_tree_) _) (.nil)) (a1q := .nil) qr9) ca31 r r (.cons ((pu_l 2 pu_Ed) _) (.cons (pu_fn (.cons ((pu_fp pu_Seek_tree_) _) (.nil)) (.nil)) (.nil))) (.one (pu_I _)) r <| asg r r r <| dn <| reg 2 r <| mv r r r <| bn r r r r r <| dn <| cd r (fun h6 => ?_) (fun h6 => ?_)
     ·replace hy := ifT hy h6
      refine regd1 mixed 8 r <| mv r r r <| mv r r r <| ?_
      obtain ⟨i10, v11, qi10, xv11, hy⟩ := ixI hy
      refine fixP (f := EdA) sl41 qi10 xv11 r r r r <| fldw tk47 r r r r <| fa fo50_0 r r r <| str tk4 r r r r r r r <| fa fo50_1 r r r <| str tk47 r r r r r r r <| dn ⟨by kernel_rfl, ?_⟩
      refine at_bn <| againI (n2, v8_1, v9_1, true, v11.u, v11.v, (w64 (v2_1_3 + 1)), (if (shlV .i64 1 (IntKind.u64.wrap v2_1_3)) < (v9_1.length : Int) then (shlV .i64 1 (IntKind.u64.wrap v2_1_3)) else (v9_1.length : Int)), _) r hy (Nat.lt_succ_self _) (.k r r (.k r r (.k r r .nil))) (.k r r .nil)
     ·replace hy := ifF hy h6
      refine at_skip <| at_bn <| againI (n2, v8_1, v9_1, v2_1, v2_1_1, v2_1_2, (w64 (v2_1_3 + 1)), (if (shlV .i64 1 (IntKind.u64.wrap v2_1_3)) < (v9_1.length : Int) then (shlV .i64 1 (IntKind.u64.wrap v2_1_3)) else (v9_1.length : Int)), _) r hy (Nat.lt_succ_self _) (.k r r (.k r r (.k r r .nil))) (.k r r .nil)
    ·replace hy := ifF hy h5
     refine at_exit <| at_te <| at_te <| at_inBlock <| ?_
     replace hy := sj hy
     subst hy
     refine metI (v2_1, v2_1_1, v2_1_2, v2_1_3, v2_1_4, _) r hc1 (.k r r .nil) (.k r r .nil)
   ·replace hy := ifF hy h4
    refine sk r r <| sk r r <| sk r r <| sk r r <| sk r r <| pkf r r r r r <| dn <| cdf r <| at_exit <| at_te <| at_te <| at_inBlock <| ?_
    replace hy := sj hy
    subst hy
    refine metI (v2_1, v2_1_1, v2_1_2, v2_1_3, v2_1_4, _) r hc1 (.k r r .nil) (.k r r .nil)
  ·rintro ⟨v2_2, v2_2_1, v2_2_2, v2_2_3, v2_2_4, g2_1⟩ cl hy
   subst hk1
   change At _ cl (mk _ _) _
   refine reg 3 r <| ldw tk50 r r r r r r <| str tk50 r r r r r r r <| asg r r r <| dn <| at_ret <| ?_
   replace hy := sj hy
   subst hy
   exact endZ [] (rs := [_, _]) r (by simp) (.inl r) (.cell _ _ _ _ _ _ _ _ _ _ _ _ _ r r r tk50 r (.tmp _ _ _ _ r .nil)) (by simp) (PuL.rn (xs := [(LoA (Lo.mk (Lo.mk v2_2 (Ed.mk v2_2_1 v2_2_2) v2_2_3 v2_2_4).found (Ed.mk (Lo.mk v2_2 (Ed.mk v2_2_1 v2_2_2) v2_2_3 v2_2_4).by_.u (Lo.mk v2_2 (Ed.mk v2_2_1 v2_2_2) v2_2_3 v2_2_4).by_.v) (Lo.mk v2_2 (Ed.mk v2_2_1 v2_2_2) v2_2_3 v2_2_4).rounds (Lo.mk v2_2 (Ed.mk v2_2_1 v2_2_2) v2_2_3 v2_2_4).nodes)), (I 0)]) (.cons (pu_Lo _) (.cons (pu_I _) (.nil))))
end Go.Ar
namespace Go.Ar
open Go.RowKit
def p_r11_Same_L1 (K : Nat) (a0 : (List Ed)) (a1 : (List Ed)) : Nat → Int → Option (Sum Unit Bool)
 | 0, _ => none
 | n+1, v5_1 => (bif (decide (v5_1 < (a0.length : Int))) then (ixP a0 v5_1 fun v2 => (ixP a1 v5_1 fun v4 => (bif (!((v2.u == v4.u) && ((v2.v == v4.v) && true))) then some (.inr false) else p_r11_Same_L1 K a0 a1 n (w64 (v5_1 + 1))))) else some (.inl ()))
def p_r11_Same (K : Nat) (a0 : (List Ed)) (a1 : (List Ed)) : Option Bool :=
 (bif ((a0.length : Int) != (a1.length : Int)) then some false else ((p_r11_Same_L1 K a0 a1 K 0 : Option (Sum Unit Bool)).bind fun | .inl _ => some true | .inr r => some r))
theorem w_r11_Same {K : Nat} {a0 : (List Ed)} {a1 : (List Ed)} {y : Bool} (hy : p_r11_Same K a0 a1 = some y) : Does PP GV 13 [] [((SL 2 EdA) a0), ((SL 2 EdA) a1)] [] [] (B y) := by
 unfold p_r11_Same at hy
 refine does_of at13 r (le_ok r) <| ?_
 rintro ⟨_, base, w0, F⟩ rfl
 refine reg 1 r <| asg r r r <| dn <| at_seq <| reg 5 r <| mv r r r <| lnf (f := EdA) slB41 r r r <| mv r r r <| lnf (f := EdA) slB41 r r r <| bn r r r r r <| dn <| cd r (fun h1 => ?_) (fun h1 => ?_)
 ·replace hy := ifT hy h1
  refine reg 1 r <| asg r r r <| dn <| at_ret <| ?_
  replace hy := sj hy
  subst hy
  exact out1 r (.inl r) (look_of r) r (pu_B _)
 ·replace hy := ifF hy h1
  refine at_skip <| ?_
  obtain ⟨o1, hy, k1, hk1, hc1⟩ := bndK hy
  refine meetI (fun (p : Unit) => match p with | _ => mk [] []) (fun p => match p with | _ => k1 (.inl ()) = some y) ?_ ?_
  ·skip
   refine reg 1 r <| asg r r r <| dn <| at_block <| wk (T' := [(0, ((SL 2 EdA) a0)), (1, ((SL 2 EdA) a1)), (5, (I 0))]) (H' := []) (.k r r (.k r r (.k r r .nil))) .nil <| loopI (fun (p : Nat × Int) => match p with | (n2, v5_1) => mk [(0, ((SL 2 EdA) a0)), (1, ((SL 2 EdA) a1)), (5, (I v5_1))] []) (fun p => match p with | (n2, v5_1) => p_r11_Same_L1 K a0 a1 n2 v5_1 = some o1) (fun p => p.1) ?_ (K, 0) hy _
   rintro ⟨n2, v5_1⟩ cl hy
   cases n2 with | zero => cases hy | succ n2 => ?_
   change At _ cl (mk _ _) _
   replace hy : p_r11_Same_L1 K a0 a1 (n2+1) v5_1 = some o1 := hy
   rw [p_r11_Same_L1] at hy
   refine at_seq <| reg 4 r <| mv r r r <| mv r r r <| lnf (f := EdA) slB41 r r r <| bn r r r r r <| dn <| cd r (fun h4 => ?_) (fun h4 => ?_)
   ·replace hy := ifT hy h4
    refine at_skip <| at_seq <| at_block <| regd mixed 9 r <| mv r r r <| mv r r r <| ?_
    obtain ⟨i1, v2, qi1, xv2, hy⟩ := ixI hy
    refine fixP (f := EdA) sl41 qi1 xv2 r r r r <| fldw tk47 r r r r <| mv r r r <| mv r r r <| ?_
    obtain ⟨i3, v4, qi3, xv4, hy⟩ := ixI hy
    refine fixP (f := EdA) sl41 qi3 xv4 r r r r <| fldw tk47 r r r r <| rg_neA (gd_of r) (ev_of r) (ev_of r) r r eg47 (ev47 ..) (lt_ok r) <| dn ⟨by kernel_rfl, ?_⟩
    refine cd r (fun h5 => ?_) (fun h5 => ?_)
    ·replace hy := ifT hy h5
     refine reg 1 r <| asg r r r <| dn <| at_ret <| ?_
     replace hy := sj hy
     subst hy
     subst hk1
     replace hc1 := Option.some.inj hc1
     subst hc1
     exact out1 r (.inl r) (look_of r) r (pu_B _)
    ·replace hy := ifF hy h5
     refine at_skip <| at_bn <| reg1 3 r <| mv r r r <| bn r r r r r <| asg r r r <| dn <| againI (n2, (w64 (v5_1 + 1))) r hy (Nat.lt_succ_self _) (.k r r (.k r r (.k r r .nil))) .nil
   ·replace hy := ifF hy h4
    refine at_exit <| at_te <| at_te <| at_inBlock <| ?_
    replace hy := sj hy
    subst hy
    refine metI () r hc1 .nil .nil
  ·rintro ⟨⟩ cl hy
   subst hk1
   change At _ cl (mk _ _) _
   refine reg 1 r <| asg r r r <| dn <| at_ret <| ?_
   replace hy := sj hy
   subst hy
   exact out1 r (.inl r) (look_of r) r (pu_B _)
def p_law29_alive (K : Nat)  : Option Bool :=
 ((p_seek_Seek K (Gr.mk 5 [(Ti.mk 0 1 0 true), (Ti.mk 0 2 0 true), (Ti.mk 1 2 0 false), (Ti.mk 1 3 0 false)]) 2 0).bind fun r1 => ((p_seek_Seek K (Gr.mk 5 [(Ti.mk 0 1 0 true), (Ti.mk 0 2 0 true), (Ti.mk 1 2 0 false), (Ti.mk 1 3 0 false)]) 3 0).bind fun r2 => ((p_seek_Seek K (Gr.mk 5 [(Ti.mk 0 1 0 true), (Ti.mk 0 2 0 true), (Ti.mk 1 2 0 false), (Ti.mk 1 3 0 false)]) 4 0).bind fun r3 => ((p_seek_Out K (Gr.mk 5 [(Ti.mk 0 1 0 true), (Ti.mk 0 2 0 true), (Ti.mk 1 2 0 false), (Ti.mk 1 3 0 false)]) 0 0).bind fun r4 => ((p_seek_Round K (Gr.mk 5 [(Ti.mk 0 1 0 true), (Ti.mk 0 2 0 true), (Ti.mk 1 2 0 false), (Ti.mk 1 3 0 false)]) 0 0 1).bind fun r5 => ((p_seek_Tower K (Gr.mk 5 [(Ti.mk 0 1 0 true), (Ti.mk 0 2 0 true), (Ti.mk 1 2 0 false), (Ti.mk 1 3 0 false)]) 1 0 [1]).bind fun r6 => ((p_seek_Seek K (Gr.mk 5 [(Ti.mk 0 1 0 true), (Ti.mk 0 2 0 true), (Ti.mk 1 2 0 false), (Ti.mk 1 3 0 false)]) 5 0).bind fun r7 => ((p_seek_Out K (Gr.mk 0 []) 0 0).bind fun r8 => (bif (r1.2 != 0) then some false else (bif (r2.2 != 0) then some false else (bif (r3.2 != 0) then some false else (bif (r4.2 != 0) then some false else (bif (r5.2 != 0) then some false else (bif (r6.2.2 != 0) then some false else (bif (r7.2 != 10) then some false else (bif (r8.2 != 1) then some false else (bif ((r6.2.1.length : Int) != 7) then some false else (bif ((r1.1.found == (Lo.mk true (Ed.mk (Ed.mk 1 3).u (Ed.mk 1 3).v) 2 2).found) && (((r1.1.by_.u == (Lo.mk true (Ed.mk (Ed.mk 1 3).u (Ed.mk 1 3).v) 2 2).by_.u) && ((r1.1.by_.v == (Lo.mk true (Ed.mk (Ed.mk 1 3).u (Ed.mk 1 3).v) 2 2).by_.v) && true)) && ((r1.1.rounds == (Lo.mk true (Ed.mk (Ed.mk 1 3).u (Ed.mk 1 3).v) 2 2).rounds) && ((r1.1.nodes == (Lo.mk true (Ed.mk (Ed.mk 1 3).u (Ed.mk 1 3).v) 2 2).nodes) && true)))) then (bif ((r2.1.found == (Lo.mk true (Ed.mk (Ed.mk 1 3).u (Ed.mk 1 3).v) 1 1).found) && (((r2.1.by_.u == (Lo.mk true (Ed.mk (Ed.mk 1 3).u (Ed.mk 1 3).v) 1 1).by_.u) && ((r2.1.by_.v == (Lo.mk true (Ed.mk (Ed.mk 1 3).u (Ed.mk 1 3).v) 1 1).by_.v) && true)) && ((r2.1.rounds == (Lo.mk true (Ed.mk (Ed.mk 1 3).u (Ed.mk 1 3).v) 1 1).rounds) && ((r2.1.nodes == (Lo.mk true (Ed.mk (Ed.mk 1 3).u (Ed.mk 1 3).v) 1 1).nodes) && true)))) then (bif ((r3.1.found == (Lo.mk false (Ed.mk 0 0) 0 0).found) && (((r3.1.by_.u == (Lo.mk false (Ed.mk 0 0) 0 0).by_.u) && ((r3.1.by_.v == (Lo.mk false (Ed.mk 0 0) 0 0).by_.v) && true)) && ((r3.1.rounds == (Lo.mk false (Ed.mk 0 0) 0 0).rounds) && ((r3.1.nodes == (Lo.mk false (Ed.mk 0 0) 0 0).nodes) && true)))) then ((p_r11_Same K r4.1 [(Ed.mk 1 3)]).bind fun r9 => (bif r9 then ((p_r11_Same K r5.1 [(Ed.mk 1 2)]).bind fun r10 => (bif r10 then ((p_r01_Ints K r6.1.tokens [0, 7, 2, 15, 6, 1, 10]).bind fun r11 => (bif r11 then (ixP r6.2.1 2 fun v13 => ((p_r01_Ints K v13 [1]).bind fun r14 => (bif r14 then (ixP r6.2.1 5 fun v16 => ((p_r01_Ints K v16 [1]).bind fun r17 => (bif r17 then (ixP r6.2.1 0 fun v19 => ((p_r01_Ints K v19 [0]).bind fun r20 => some r20)) else some false))) else some false))) else some false)) else some false)) else some false)) else some false) else some false) else some false))))))))))))))))))
theorem w_law29_alive {K : Nat}  {y : Bool} (hy : p_law29_alive K = some y) : Does PP GV 5 [] [] [] [] (B y) := by
 unfold p_law29_alive at hy
 refine does_of at5 r (le_ok r) <| ?_
 rintro ⟨_, base, w0, F⟩ rfl
 refine reg 1 r <| asg r r r <| dn <| reg 8 r <| bld bd45 r r r r <| bld bd45 r r r r <| bld bd45 r r r r <| bld bd45 r r r r <| bldsP TiA ([(Ti.mk 0 1 0 true), (Ti.mk 0 2 0 true), (Ti.mk 1 2 0 false), (Ti.mk 1 3 0 false)] : List Ti) 1 se22 r r r r r r r <| bld bd24 r r r r <| rg_alloc (s := 2) (gd_of r) zc24 (elems_one (by rfl)) (lt_ok r) <| str tk24 r r r r r r r <| dn <| cellF (f := TiA) (l := [(Ti.mk 0 1 0 true), (Ti.mk 0 2 0 true), (Ti.mk 1 2 0 false), (Ti.mk 1 3 0 false)]) 2 1 1 r r r pu_Ti r <| reg 8 r <| ldw tk24 r r r r r r <| ?_
 obtain ⟨r1, qr1, hy⟩ := bndI hy
 refine clp (w_seek_Seek qr1) ca14 r r (.cons (pu_Gr _) (.cons (pu_I _) (.cons (pu_I _) (.nil)))) (.tup (.cons (pu_Lo _) (.cons (pu_I _) (.nil)))) r <| mv r r r <| ext r r r r <| ext r r r r <| rg_alloc (s := 3) (gd_of r) zc50 (elems_one (by rfl)) (lt_ok r) <| str tk50 r r r r r r r <| asg r r r <| dn <| reg 8 r <| ldw tk24 r r r r r r <| ?_
 obtain ⟨r2, qr2, hy⟩ := bndI hy
 refine clp (w_seek_Seek qr2) ca14 r r (.cons (pu_Gr _) (.cons (pu_I _) (.cons (pu_I _) (.nil)))) (.tup (.cons (pu_Lo _) (.cons (pu_I _) (.nil)))) r <| mv r r r <| ext r r r r <| ext r r r r <| rg_alloc (s := 4) (gd_of r) zc50 (elems_one (by rfl)) (lt_ok r) <| str tk50 r r r r r r r <| asg r r r <| dn <| reg 8 r <| ldw tk24 r r r r r r <| ?_
 obtain ⟨r3, qr3, hy⟩ := bndI hy
 refine clp (w_seek_Seek qr3) ca14 r r (.cons (pu_Gr _) (.cons (pu_I _) (.cons (pu_I _) (.nil)))) (.tup (.cons (pu_Lo _) (.cons (pu_I _) (.nil)))) r <| mv r r r <| ext r r r r <| ext r r r r <| rg_alloc (s := 5) (gd_of r) zc50 (elems_one (by rfl)) (lt_ok r) <| str tk50 r r r r r r r <| asg r r r <| dn <| reg 7 r <| ldw tk24 r r r r r r <| ?_
 obtain ⟨r4, qr4, hy⟩ := bndI hy
 refine clp (w_seek_Out qr4) ca15 r r (.cons (pu_Gr _) (.cons (pu_I _) (.cons (pu_I _) (.nil)))) (.tup (.cons ((pu_l 2 pu_Ed) _) (.cons (pu_I _) (.nil)))) r <| mv r r r <| ext r r r r <| ext r r r r <| asg r r r <| asg r r r <| dn <| reg 7 r <| ldw tk24 r r r r r r <| ?_
 obtain ⟨r5, qr5, hy⟩ := bndI hy
 refine clp (w_seek_Round qr5) ca12 r r (.cons (pu_Gr _) (.cons (pu_I _) (.cons (pu_I _) (.cons (pu_I _) (.nil))))) (.tup (.cons ((pu_l 2 pu_Ed) _) (.cons (pu_I _) (.nil)))) r <| mv r r r <| ext r r r r <| ext r r r r <| asg r r r <| asg r r r <| dn <| reg 11 r <| ldw tk24 r r r r r r <| bldsF (J .u32) ([1] : List Int) 6 (pu_J _) se26 r r r r r r r <| ?_
 obtain ⟨r6, qr6, hy⟩ := bndI hy
 refine clp (w_seek_Tower qr6) ca7 r r (.cons (pu_Gr _) (.cons (pu_I _) (.cons (pu_I _) (.cons ((pu_l 1 (pu_J _)) _) (.nil))))) (.tup (.cons (pu_Tw _) (.cons ((pu_l 1 (pu_l 1 pu_I)) _) (.cons (pu_I _) (.nil))))) r <| mv r r r <| ext r r r r <| ext r r r r <| ext r r r r <| rg_alloc (s := 7) (gd_of r) zc32 (elems_one (by rfl)) (lt_ok r) <| str tk32 r r r r r r r <| asg r r r <| asg r r r <| dn <| reg 8 r <| ldw tk24 r r r r r r <| ?_
 obtain ⟨r7, qr7, hy⟩ := bndI hy
 refine clp (w_seek_Seek qr7) ca14 r r (.cons (pu_Gr _) (.cons (pu_I _) (.cons (pu_I _) (.nil)))) (.tup (.cons (pu_Lo _) (.cons (pu_I _) (.nil)))) r <| mv r r r <| ext r r r r <| ext r r r r <| rg_alloc (s := 8) (gd_of r) zc50 (elems_one (by rfl)) (lt_ok r) <| str tk50 r r r r r r r <| asg r r r <| dn <| reg 7 r <| bldZ bd24 r r r (.same _ _ _ (.list 4 _ _ .nil)) r <| ?_
 obtain ⟨r8, qr8, hy⟩ := bndI hy
 refine clp (w_seek_Out qr8) ca15 r r (.cons (pu_Gr _) (.cons (pu_I _) (.cons (pu_I _) (.nil)))) (.tup (.cons ((pu_l 2 pu_Ed) _) (.cons (pu_I _) (.nil)))) r <| mv r r r <| ext r r r r <| ext r r r r <| asg r r r <| asg r r r <| dn <| at_seq <| reg 35 r <| mv r r r <| bn r r r r r <| mv r r r <| cas 69 r (fun h1 => ?_) (fun h1 => ?_)
 ·replace hy := ifT hy h1
  refine sk r r <| sk r r <| pkt r r r r r <| mv r r r <| sk r r <| sk r r <| pkt r r r r r <| mv r r r <| sk r r <| sk r r <| pkt r r r r r <| mv r r r <| sk r r <| sk r r <| pkt r r r r r <| mv r r r <| sk r r <| sk r r <| pkt r r r r r <| mv r r r <| sk r r <| sk r r <| pkt r r r r r <| mv r r r <| sk r r <| sk r r <| pkt r r r r r <| mv r r r <| sk r r <| sk r r <| sk r r <| pkt r r r r r <| dn <| cdt r <| reg 1 r <| asg r r r <| dn <| at_ret <| ?_
  replace hy := sj hy
  subst hy
  exact out1 r (.inl r) (look_of r) r (pu_B _)
 ·replace hy := ifF hy h1
  refine mv r r r <| bn r r r r r <| pkf r r r r r <| mv r r r <| cas 73 r (fun h2 => ?_) (fun h2 => ?_)
  ·replace hy := ifT hy h2
   refine sk r r <| sk r r <| pkt r r r r r <| mv r r r <| sk r r <| sk r r <| pkt r r r r r <| mv r r r <| sk r r <| sk r r <| pkt r r r r r <| mv r r r <| sk r r <| sk r r <| pkt r r r r r <| mv r r r <| sk r r <| sk r r <| pkt r r r r r <| mv r r r <| sk r r <| sk r r <| pkt r r r r r <| mv r r r <| sk r r <| sk r r <| sk r r <| pkt r r r r r <| dn <| cdt r <| reg 1 r <| asg r r r <| dn <| at_ret <| ?_
   replace hy := sj hy
   subst hy
   exact out1 r (.inl r) (look_of r) r (pu_B _)
  ·replace hy := ifF hy h2
   refine mv r r r <| bn r r r r r <| pkf r r r r r <| mv r r r <| cas 77 r (fun h3 => ?_) (fun h3 => ?_)
   ·replace hy := ifT hy h3
    refine sk r r <| sk r r <| pkt r r r r r <| mv r r r <| sk r r <| sk r r <| pkt r r r r r <| mv r r r <| sk r r <| sk r r <| pkt r r r r r <| mv r r r <| sk r r <| sk r r <| pkt r r r r r <| mv r r r <| sk r r <| sk r r <| pkt r r r r r <| mv r r r <| sk r r <| sk r r <| sk r r <| pkt r r r r r <| dn <| cdt r <| reg 1 r <| asg r r r <| dn <| at_ret <| ?_
    replace hy := sj hy
    subst hy
    exact out1 r (.inl r) (look_of r) r (pu_B _)
   ·replace hy := ifF hy h3
    refine mv r r r <| bn r r r r r <| pkf r r r r r <| mv r r r <| cas 81 r (fun h4 => ?_) (fun h4 => ?_)
    ·replace hy := ifT hy h4
     refine sk r r <| sk r r <| pkt r r r r r <| mv r r r <| sk r r <| sk r r <| pkt r r r r r <| mv r r r <| sk r r <| sk r r <| pkt r r r r r <| mv r r r <| sk r r <| sk r r <| pkt r r r r r <| mv r r r <| sk r r <| sk r r <| sk r r <| pkt r r r r r <| dn <| cdt r <| reg 1 r <| asg r r r <| dn <| at_ret <| ?_
     replace hy := sj hy
     subst hy
     exact out1 r (.inl r) (look_of r) r (pu_B _)
    ·replace hy := ifF hy h4
     refine mv r r r <| bn r r r r r <| pkf r r r r r <| mv r r r <| cas 85 r (fun h5 => ?_) (fun h5 => ?_)
     ·replace hy := ifT hy h5
      refine sk r r <| sk r r <| pkt r r r r r <| mv r r r <| sk r r <| sk r r <| pkt r r r r r <| mv r r r <| sk r r <| sk r r <| pkt r r r r r <| mv r r r <| sk r r <| sk r r <| sk r r <| pkt r r r r r <| dn <| cdt r <| reg 1 r <| asg r r r <| dn <| at_ret <| ?_
      replace hy := sj hy
      subst hy
      exact out1 r (.inl r) (look_of r) r (pu_B _)
     ·replace hy := ifF hy h5
      refine mv r r r <| bn r r r r r <| pkf r r r r r <| mv r r r <| cas 89 r (fun h6 => ?_) (fun h6 => ?_)
      ·replace hy := ifT hy h6
       refine sk r r <| sk r r <| pkt r r r r r <| mv r r r <| sk r r <| sk r r <| pkt r r r r r <| mv r r r <| sk r r <| sk r r <| sk r r <| pkt r r r r r <| dn <| cdt r <| reg 1 r <| asg r r r <| dn <| at_ret <| ?_
       replace hy := sj hy
       subst hy
       exact out1 r (.inl r) (look_of r) r (pu_B _)
      ·replace hy := ifF hy h6
       refine mv r r r <| bn r r r r r <| pkf r r r r r <| mv r r r <| cas 93 r (fun h7 => ?_) (fun h7 => ?_)
       ·replace hy := ifT hy h7
        refine sk r r <| sk r r <| pkt r r r r r <| mv r r r <| sk r r <| sk r r <| sk r r <| pkt r r r r r <| dn <| cdt r <| reg 1 r <| asg r r r <| dn <| at_ret <| ?_
        replace hy := sj hy
        subst hy
        exact out1 r (.inl r) (look_of r) r (pu_B _)
       ·replace hy := ifF hy h7
        refine mv r r r <| bn r r r r r <| pkf r r r r r <| mv r r r <| cas 97 r (fun h8 => ?_) (fun h8 => ?_)
        ·replace hy := ifT hy h8
         refine sk r r <| sk r r <| sk r r <| pkt r r r r r <| dn <| cdt r <| reg 1 r <| asg r r r <| dn <| at_ret <| ?_
         replace hy := sj hy
         subst hy
         exact out1 r (.inl r) (look_of r) r (pu_B _)
        ·replace hy := ifF hy h8
         refine mv r r r <| lnf (f := (SL 1 I)) slB30 r r r <| bn r r r r r <| pkf r r r r r <| dn <| cd r (fun h9 => ?_) (fun h9 => ?_)
         ·replace hy := ifT hy h9
          refine reg 1 r <| asg r r r <| dn <| at_ret <| ?_
          replace hy := sj hy
          subst hy
          exact out1 r (.inl r) (look_of r) r (pu_B _)
         ·replace hy := ifF hy h9
          refine at_skip <| reg 55 r <| ldw tk50 r r r r r r <| bld bd47 r r r r <| bld bd50 r r r r <| rg_eqA (gd_of r) (ev_of r) (ev_of r) r r eg50 (ev50 ..) (lt_ok r) <| mv r r r <| cas 106 r (fun h10 => ?_) (fun h10 => ?_)
          ·replace hy := ifT hy h10
           refine ldw tk50 r r r r r r <| bld bd47 r r r r <| bld bd50 r r r r <| rg_eqA (gd_of r) (ev_of r) (ev_of r) r r eg50 (ev50 ..) (lt_ok r) <| pkt r r r r r <| mv r r r <| cas 112 r (fun h11 => ?_) (fun h11 => ?_)
           ·replace hy := ifT hy h11
            refine ldw tk50 r r r r r r <| bld bd50 r r r r <| rg_eqA (gd_of r) (ev_of r) (ev_of r) r r eg50 (ev50 ..) (lt_ok r) <| pkt r r r r r <| mv r r r <| cas 117 r (fun h12 => ?_) (fun h12 => ?_)
            ·replace hy := ifT hy h12
             refine mv r r r <| bld bd47 r r r r <| bldsF EdA ([(Ed.mk 1 3)] : List Ed) 9 pu_Ed se41 r r r r r r r <| ?_
             obtain ⟨r9, qr9, hy⟩ := bndI hy
             refine clp (w_r11_Same qr9) ca13 r r (.cons ((pu_l 2 pu_Ed) _) (.cons ((pu_l 2 pu_Ed) _) (.nil))) (.one (pu_B _)) r <| pkt r r r r r <| mv r r r <| cas 123 r (fun h13 => ?_) (fun h13 => ?_)
             ·replace hy := ifT hy h13
              refine mv r r r <| bld bd47 r r r r <| bldsF EdA ([(Ed.mk 1 2)] : List Ed) 10 pu_Ed se41 r r r r r r r <| ?_
              obtain ⟨r10, qr10, hy⟩ := bndI hy
              refine clp (w_r11_Same qr10) ca13 r r (.cons ((pu_l 2 pu_Ed) _) (.cons ((pu_l 2 pu_Ed) _) (.nil))) (.one (pu_B _)) r <| pkt r r r r r <| mv r r r <| cas 129 r (fun h14 => ?_) (fun h14 => ?_)
              ·replace hy := ifT hy h14
               refine fa fo32_0 r r r <| ld tk29 r r r r r r <| bldsF I ([0, 7, 2, 15, 6, 1, 10] : List Int) 11 pu_I se29 r r r r r r r <| ?_
               obtain ⟨r11, qr11, hy⟩ := bndI hy
               refine clp (w_r01_Ints qr11) ca16 r r (.cons ((pu_l 1 pu_I) _) (.cons ((pu_l 1 pu_I) _) (.nil))) (.one (pu_B _)) r <| pkt r r r r r <| mv r r r <| cas 135 r (fun h15 => ?_) (fun h15 => ?_)
               ·replace hy := ifT hy h15
                refine mv r r r <| ?_
                obtain ⟨i12, v13, qi12, xv13, hy⟩ := ixI hy
                refine fixP (f := (SL 1 I)) sl30 qi12 xv13 r r r r <| fld tk29 r r r r <| bldsF I ([1] : List Int) 12 pu_I se29 r r r r r r r <| ?_
                obtain ⟨r14, qr14, hy⟩ := bndI hy
                refine clp (w_r01_Ints qr14) ca16 r r (.cons ((pu_l 1 pu_I) _) (.cons ((pu_l 1 pu_I) _) (.nil))) (.one (pu_B _)) r <| pkt r r r r r <| mv r r r <| cas 142 r (fun h16 => ?_) (fun h16 => ?_)
                ·replace hy := ifT hy h16
                 refine mv r r r <| ?_
                 obtain ⟨i15, v16, qi15, xv16, hy⟩ := ixI hy
                 refine fixP (f := (SL 1 I)) sl30 qi15 xv16 r r r r <| fld tk29 r r r r <| bldsF I ([1] : List Int) 13 pu_I se29 r r r r r r r <| ?_
                 obtain ⟨r17, qr17, hy⟩ := bndI hy
                 refine clp (w_r01_Ints qr17) ca16 r r (.cons ((pu_l 1 pu_I) _) (.cons ((pu_l 1 pu_I) _) (.nil))) (.one (pu_B _)) r <| pkt r r r r r <| mv r r r <| cas 149 r (fun h17 => ?_) (fun h17 => ?_)
                 ·replace hy := ifT hy h17
                  refine mv r r r <| ?_
                  obtain ⟨i18, v19, qi18, xv19, hy⟩ := ixI hy
                  refine fixP (f := (SL 1 I)) sl30 qi18 xv19 r r r r <| fld tk29 r r r r <| bldsF I ([0] : List Int) 14 pu_I se29 r r r r r r r <| ?_
                  obtain ⟨r20, qr20, hy⟩ := bndI hy
                  refine clp (w_r01_Ints qr20) ca16 r r (.cons ((pu_l 1 pu_I) _) (.cons ((pu_l 1 pu_I) _) (.nil))) (.one (pu_B _)) r <| pkt r r r r r <| asg r r r <| dn <| at_ret <| ?_
                  replace hy := sj hy
                  subst hy
                  exact out1 r (.inl r) (look_of r) r (pu_B _)
                 ·replace hy := ifF hy h17
                  refine sk r r <| sk r r <| sk r r <| sk r r <| sk r r <| pkf r r r r r <| asg r r r <| dn <| at_ret <| ?_
                  replace hy := sj hy
                  subst hy
                  exact out1 r (.inl r) (look_of r) r (pu_B _)
                ·replace hy := ifF hy h16
                 refine sk r r <| sk r r <| sk r r <| sk r r <| sk r r <| pkf r r r r r <| mv r r r <| sk r r <| sk r r <| sk r r <| sk r r <| sk r r <| pkf r r r r r <| asg r r r <| dn <| at_ret <| ?_
                 replace hy := sj hy
                 subst hy
                 exact out1 r (.inl r) (look_of r) r (pu_B _)
               ·replace hy := ifF hy h15
                refine sk r r <| sk r r <| sk r r <| sk r r <| sk r r <| pkf r r r r r <| mv r r r <| sk r r <| sk r r <| sk r r <| sk r r <| sk r r <| pkf r r r r r <| mv r r r <| sk r r <| sk r r <| sk r r <| sk r r <| sk r r <| pkf r r r r r <| asg r r r <| dn <| at_ret <| ?_
                replace hy := sj hy
                subst hy
                exact out1 r (.inl r) (look_of r) r (pu_B _)
              ·replace hy := ifF hy h14
               refine sk r r <| sk r r <| sk r r <| sk r r <| pkf r r r r r <| mv r r r <| sk r r <| sk r r <| sk r r <| sk r r <| sk r r <| pkf r r r r r <| mv r r r <| sk r r <| sk r r <| sk r r <| sk r r <| sk r r <| pkf r r r r r <| mv r r r <| sk r r <| sk r r <| sk r r <| sk r r <| sk r r <| pkf r r r r r <| asg r r r <| dn <| at_ret <| ?_
               replace hy := sj hy
               subst hy
               exact out1 r (.inl r) (look_of r) r (pu_B _)
             ·replace hy := ifF hy h13
              refine sk r r <| sk r r <| sk r r <| sk r r <| pkf r r r r r <| mv r r r <| sk r r <| sk r r <| sk r r <| sk r r <| pkf r r r r r <| mv r r r <| sk r r <| sk r r <| sk r r <| sk r r <| sk r r <| pkf r r r r r <| mv r r r <| sk r r <| sk r r <| sk r r <| sk r r <| sk r r <| pkf r r r r r <| mv r r r <| sk r r <| sk r r <| sk r r <| sk r r <| sk r r <| pkf r r r r r <| asg r r r <| dn <| at_ret <| ?_
              replace hy := sj hy
              subst hy
              exact out1 r (.inl r) (look_of r) r (pu_B _)
            ·replace hy := ifF hy h12
             refine sk r r <| sk r r <| sk r r <| sk r r <| pkf r r r r r <| mv r r r <| sk r r <| sk r r <| sk r r <| sk r r <| pkf r r r r r <| mv r r r <| sk r r <| sk r r <| sk r r <| sk r r <| pkf r r r r r <| mv r r r <| sk r r <| sk r r <| sk r r <| sk r r <| sk r r <| pkf r r r r r <| mv r r r <| sk r r <| sk r r <| sk r r <| sk r r <| sk r r <| pkf r r r r r <| mv r r r <| sk r r <| sk r r <| sk r r <| sk r r <| sk r r <| pkf r r r r r <| asg r r r <| dn <| at_ret <| ?_
             replace hy := sj hy
             subst hy
             exact out1 r (.inl r) (look_of r) r (pu_B _)
           ·replace hy := ifF hy h11
            refine sk r r <| sk r r <| sk r r <| pkf r r r r r <| mv r r r <| sk r r <| sk r r <| sk r r <| sk r r <| pkf r r r r r <| mv r r r <| sk r r <| sk r r <| sk r r <| sk r r <| pkf r r r r r <| mv r r r <| sk r r <| sk r r <| sk r r <| sk r r <| pkf r r r r r <| mv r r r <| sk r r <| sk r r <| sk r r <| sk r r <| sk r r <| pkf r r r r r <| mv r r r <| sk r r <| sk r r <| sk r r <| sk r r <| sk r r <| pkf r r r r r <| mv r r r <| sk r r <| sk r r <| sk r r <| sk r r <| sk r r <| pkf r r r r r <| asg r r r <| dn <| at_ret <| ?_
            replace hy := sj hy
            subst hy
            exact out1 r (.inl r) (look_of r) r (pu_B _)
          ·replace hy := ifF hy h10
           refine sk r r <| sk r r <| sk r r <| sk r r <| pkf r r r r r <| mv r r r <| sk r r <| sk r r <| sk r r <| pkf r r r r r <| mv r r r <| sk r r <| sk r r <| sk r r <| sk r r <| pkf r r r r r <| mv r r r <| sk r r <| sk r r <| sk r r <| sk r r <| pkf r r r r r <| mv r r r <| sk r r <| sk r r <| sk r r <| sk r r <| pkf r r r r r <| mv r r r <| sk r r <| sk r r <| sk r r <| sk r r <| sk r r <| pkf r r r r r <| mv r r r <| sk r r <| sk r r <| sk r r <| sk r r <| sk r r <| pkf r r r r r <| mv r r r <| sk r r <| sk r r <| sk r r <| sk r r <| sk r r <| pkf r r r r r <| asg r r r <| dn <| at_ret <| ?_
           replace hy := sj hy
           subst hy
           exact out1 r (.inl r) (look_of r) r (pu_B _)
def p_law29_great (K : Nat) (a0 : Gr) : Option Bool :=
 (bif (decide ((a0.ties.length : Int) > 30)) then some true else some (decide (a0.n > 12)))
theorem w_law29_great {K : Nat} {a0 : Gr} {y : Bool} (hy : p_law29_great K a0 = some y) : Does PP GV 6 [] [(GrA a0)] [] [] (B y) := by
 unfold p_law29_great at hy
 refine does_of at6 r (le_ok r) <| ?_
 rintro ⟨_, base, w0, F⟩ rfl
 refine reg 2 r <| bx 1 r r r r <| asg r r r <| dn <| reg 10 r <| fa fo24_1 r r r <| ld tk22 r r r r r r <| lnf (f := TiA) slB22 r r r <| bn r r r r r <| mv r r r <| cas 7 r (fun h1 => ?_) (fun h1 => ?_)
 ·replace hy := ifT hy h1
  refine sk r r <| sk r r <| sk r r <| pkt r r r r r <| asg r r r <| dn <| at_ret <| ?_
  replace hy := sj hy
  subst hy
  exact out1 r (.inl r) (look_of r) r (pu_B _)
 ·replace hy := ifF hy h1
  refine fa fo24_0 r r r <| ld tk3 r r r r r r <| bn r r r r r <| pkf r r r r r <| asg r r r <| dn <| at_ret <| ?_
  replace hy := sj hy
  subst hy
  exact out1 r (.inl r) (look_of r) r (pu_B _)
def p_law29_SeekTowers (K : Nat) (a0 : Gr) (a1 : (List Int)) (a2 : (List Int)) : Option Bool :=
 ((p_law29_alive K).bind fun r1 => (bif (!r1) then some false else ((p_law29_great K a0).bind fun r2 => (bif r2 then some true else (bdP 2 0 fun i3 => gtP a1 i3 fun v4 => (bdP 2 1 fun i5 => gtP a1 i5 fun v6 => ((p_seek_Tower K a0 v4 v6 a2).bind fun r7 => (bdP 2 0 fun i8 => gtP a1 i8 fun v9 => (bdP 2 1 fun i10 => gtP a1 i10 fun v11 => ((p_r29_Tower K a0 v9 v11 a2).bind fun r12 => ((p_r14_Same K r7.1 r12.1).bind fun r13 => (bif r13 then ((p_r14_Lists K r7.2.1 r12.2.1).bind fun r14 => (bif r14 then some (r7.2.2 == r12.2.2) else some false)) else some false))))))))))))
theorem w_law29_SeekTowers {K : Nat} {a0 : Gr} {a1 : (List Int)} {a2 : (List Int)} {y : Bool} (hy : p_law29_SeekTowers K a0 a1 a2 = some y) : Does PP GV 3 [] [(GrA a0), ((AR I) a1), ((SL 1 (J .u32)) a2)] [] [] (B y) := by
 unfold p_law29_SeekTowers at hy
 refine does_of at3 r (le_ok r) <| ?_
 rintro ⟨_, base, w0, F⟩ rfl
 refine reg 3 r <| bx 1 r r r r <| bx 2 r r r r <| asg r r r <| dn <| at_seq <| reg 2 r <| ?_
 obtain ⟨r1, qr1, hy⟩ := bndI hy
 refine clp (w_law29_alive qr1) ca5 r r (.nil) (.one (pu_B _)) r <| nt r r r <| dn <| cd r (fun h1 => ?_) (fun h1 => ?_)
 ·replace hy := ifT hy h1
  refine reg 1 r <| asg r r r <| dn <| at_ret <| ?_
  replace hy := sj hy
  subst hy
  exact out1 r (.inl r) (look_of r) r (pu_B _)
 ·replace hy := ifF hy h1
  refine at_skip <| at_seq <| reg 2 r <| ldw tk24 r r r r r r <| ?_
  obtain ⟨r2, qr2, hy⟩ := bndI hy
  refine clp (w_law29_great qr2) ca6 r r (.cons (pu_Gr _) (.nil)) (.one (pu_B _)) r <| dn <| cd r (fun h2 => ?_) (fun h2 => ?_)
  ·replace hy := ifT hy h2
   refine reg 1 r <| asg r r r <| dn <| at_ret <| ?_
   replace hy := sj hy
   subst hy
   exact out1 r (.inl r) (look_of r) r (pu_B _)
  ·replace hy := ifF hy h2
   refine at_skip <| reg 15 r <| ldw tk24 r r r r r r <| ?_
   obtain ⟨i3, qi3, bi3, hy⟩ := bdI hy
   obtain ⟨v4, xv4, hy⟩ := gtI hy
   refine ixB ar25 qi3 bi3 r r r r <| ldB (f := I) (l := a1) tk3 xv4 r r r r <| ?_
   obtain ⟨i5, qi5, bi5, hy⟩ := bdI hy
   obtain ⟨v6, xv6, hy⟩ := gtI hy
   refine ixB ar25 qi5 bi5 r r r r <| ldB (f := I) (l := a1) tk3 xv6 r r r r <| mv r r r <| ?_
   obtain ⟨r7, qr7, hy⟩ := bndI hy
   refine clp (w_seek_Tower qr7) ca7 r r (.cons (pu_Gr _) (.cons (pu_I _) (.cons (pu_I _) (.cons ((pu_l 1 (pu_J _)) _) (.nil))))) (.tup (.cons (pu_Tw _) (.cons ((pu_l 1 (pu_l 1 pu_I)) _) (.cons (pu_I _) (.nil))))) r <| mv r r r <| ext r r r r <| ext r r r r <| ext r r r r <| rg_alloc (s := 3) (gd_of r) zc32 (elems_one (by rfl)) (lt_ok r) <| str tk32 r r r r r r r <| asg r r r <| asg r r r <| dn <| reg 15 r <| ldw tk24 r r r r r r <| ?_
   obtain ⟨i8, qi8, bi8, hy⟩ := bdI hy
   obtain ⟨v9, xv9, hy⟩ := gtI hy
   refine ixB ar25 qi8 bi8 r r r r <| ldB (f := I) (l := a1) tk3 xv9 r r r r <| ?_
   obtain ⟨i10, qi10, bi10, hy⟩ := bdI hy
   obtain ⟨v11, xv11, hy⟩ := gtI hy
   refine ixB ar25 qi10 bi10 r r r r <| ldB (f := I) (l := a1) tk3 xv11 r r r r <| mv r r r <| ?_
   obtain ⟨r12, qr12, hy⟩ := bndI hy
   refine clp (w_r29_Tower qr12) ca8 r r (.cons (pu_Gr _) (.cons (pu_I _) (.cons (pu_I _) (.cons ((pu_l 1 (pu_J _)) _) (.nil))))) (.tup (.cons (pu_Tw _) (.cons ((pu_l 1 (pu_l 1 pu_I)) _) (.cons (pu_I _) (.nil))))) r <| mv r r r <| ext r r r r <| ext r r r r <| ext r r r r <| rg_alloc (s := 4) (gd_of r) zc32 (elems_one (by rfl)) (lt_ok r) <| str tk32 r r r r r r r <| asg r r r <| asg r r r <| dn <| reg 14 r <| ldw tk32 r r r r r r <| ldw tk32 r r r r r r <| ?_
   obtain ⟨r13, qr13, hy⟩ := bndI hy
   refine clp (w_r14_Same qr13) ca9 r r (.cons (pu_Tw _) (.cons (pu_Tw _) (.nil))) (.one (pu_B _)) r <| mv r r r <| cas 42 r (fun h3 => ?_) (fun h3 => ?_)
   ·replace hy := ifT hy h3
    refine mv r r r <| mv r r r <| ?_
    obtain ⟨r14, qr14, hy⟩ := bndI hy
    refine clp (w_r14_Lists qr14) ca10 r r (.cons ((pu_l 1 (pu_l 1 pu_I)) _) (.cons ((pu_l 1 (pu_l 1 pu_I)) _) (.nil))) (.one (pu_B _)) r <| pkt r r r r r <| mv r r r <| cas 47 r (fun h4 => ?_) (fun h4 => ?_)
    ·replace hy := ifT hy h4
     refine mv r r r <| mv r r r <| bn r r r r r <| pkt r r r r r <| asg r r r <| dn <| at_ret <| ?_
     replace hy := sj hy
     subst hy
     exact out1 r (.inl r) (look_of r) r (pu_B _)
    ·replace hy := ifF hy h4
     refine sk r r <| sk r r <| sk r r <| pkf r r r r r <| asg r r r <| dn <| at_ret <| ?_
     replace hy := sj hy
     subst hy
     exact out1 r (.inl r) (look_of r) r (pu_B _)
   ·replace hy := ifF hy h3
    refine sk r r <| sk r r <| sk r r <| pkf r r r r r <| mv r r r <| sk r r <| sk r r <| sk r r <| pkf r r r r r <| asg r r r <| dn <| at_ret <| ?_
    replace hy := sj hy
    subst hy
    exact out1 r (.inl r) (look_of r) r (pu_B _)
end Go.Ar
namespace Go.Ar
open Go.RowKit
def FA (W : World) : Fr := ⟨fun b => b < W.heap.size, fun _ => False, fun _ => none⟩
def EA : Nat → Nat → Option Loc := fun _ _ => none
abbrev cxA (W : World) : Cx := cx W.heap.size (FA W) EA (· < 1) W
theorem held_all {gl : List (Nat × Array Value × TypeId)} {W : World} (hgl : ∀ p ∈ gl, ∃ t, W.heap[p.1]? = some (.cells p.2.1 t (0, 0))) : Held gl W.heap.size W (FA W) EA [] W := by
 have ho : ∀ s g, (mk [] (objs 0 [])).obj s g = none := by intro s g; simp [St.obj, mk, objs, lookH]
 refine ⟨rfl, rfl, fun p hp => ?_, Below.refl _ _, fun _ _ _ => rfl, fun b hb => ⟨hb, fun h => h⟩, Nat.le_refl _, fun _ _ _ => rfl, fun s g o h => ?_, fun s g L b h => ?_, fun s g s' g' L L' b h => ?_, Nat.zero_lt_one, fun s L h => ?_, fun t => VT.any _ _⟩
 ·obtain ⟨t, ht⟩ := hgl p hp
  exact ⟨(Array.getElem?_eq_some_iff.1 ht).1, t, ht⟩
 ·rw [ho] at h; cases h
 ·cases h
 ·cases h
 ·cases h
theorem law_call {P : Program} {gl : List (Nat × Array Value × TypeId)} {f : FuncId} {xs : List AV} {W : World} {vs : List Value} (hd : Does P gl f [] xs [] [] (.v (.bool true)))
    (hgl : ∀ p ∈ gl, ∃ t, W.heap[p.1]? = some (.cells p.2.1 t (0, 0))) (hlen : xs.length = vs.length) (hx : ∀ (i : Nat) x, xs[i]? = some x → ∀ v, vs[i]? = some v → VT (cxA W) x v) :
    Calls P f vs.toArray W fun e W' => e = .returned (.bool true) ∧ Below W.heap.size W W' := by
 refine (hd (FA W) EA W vs (held_all hgl) hlen hx).mono fun e W' h => ?_
 cases e with
 | returned v =>
  obtain ⟨E', hs, _, hv⟩ := h
  obtain ⟨_, hv⟩ := hv
  cases hv
  exact ⟨rfl, hs.below.os, hs.below.tape, hs.below.output, hs.below.size, fun k hk => hs.keep k hk (fun h => h)⟩
 | _ => exact h.elim
section
variable {H : Type} {enc : TypeId × Value → H} {P : Program}
theorem trodAll_carry {W W' : World} {base : Nat} {sp : Nat → Bool} {held : Bool} : ∀ {ts : List TypeId} {vs : List Value} {ds : List (DataW H)} {ps : List MemPlace}, DataW.TrodAll enc P W base sp held ts vs ds ps → (∀ p ∈ ps, W.sameAt W' p) → DataW.TrodAll enc P W' base sp held ts vs ds ps
 | [], [], [], _, h, _ => h
 | _ :: _, _ :: _, _ :: _, _, ⟨p, q, ⟨n, h1⟩, h2, e⟩, hs => ⟨p, q, ⟨n, DataW.trod_carry n _ _ _ h1 fun x hx => hs x (by rw [e]; exact List.mem_append_left _ hx)⟩, trodAll_carry h2 (fun x hx => hs x (by rw [e]; exact List.mem_append_right _ hx)), e⟩
theorem law_post {f : Func} {s : ChangeSpec} {apart fresh handsOn again : Bool} {W W' : World} {args : Array Value} {ds gs : List (DataW H)} {before : List MemPlace} {rt : TypeId}
    (hl : laidOutB P = true) (hm : mapsRowed P = true) (hsl : ((List.range P.types.size).all fun t => match P.underlying t with | some (.slice e) => decide (0 < P.cellsOf e) | _ => true) = true) (hts : (f.params.toList.all fun t => decide (t < P.types.size)) = true)
    (hrt : f.resultTypes = #[rt]) (hb : P.underlying rt = some .bool) (hv : s.vars = []) (hs : s.fn H (ds ++ gs) = { results := [.lit (.bool true)], args := ds })
    (hW : DataW.Whole enc P f.params.toList s.vars apart W args.toList ds gs before) (hB : Below W.heap.size W W') :
    s.post enc P f apart fresh handsOn again W args (.bool true) W' := by
 have hW' := hW
 obtain ⟨p, q, hA, hV, rfl, hfz, hnd⟩ := hW
 rw [hv] at hV
 obtain ⟨rfl, rfl⟩ : gs = [] ∧ q = [] := by
  cases gs with
  | nil => exact ⟨rfl, hV⟩
  | cons g r => exact absurd hV (by intro h; cases h)
 simp only [List.append_nil] at hW' hs hfz hnd
 have hlt : ∀ x ∈ p, x.block < W.heap.size := fun x hx => hW'.lt x hx
 have K := kids_rows hl hm
 have hz := slices_full_of P hsl
 have hT : ∀ t ∈ f.params.toList, t < P.types.size := fun t ht => by simpa using List.all_eq_true.1 hts t ht
 have hA2 := trodAll_carry hA fun x hx => hB.same (hlt x hx)
 have hargs : ∀ sp : Nat → Bool, (∀ x ∈ p, sp x.block = true) → DataW.TrodAll enc P W' 0 sp true f.params.toList args.toList ds p := fun sp hsp => DataW.TrodAll.respare K hz hT hA2 hsp
 have hres : ∀ (b : Nat) (sp : Nat → Bool) (hd : Bool), DataW.TrodAll enc P W' b sp hd f.resultTypes.toList ((Value.bool true).resultList f.resultTypes.size) [.lit (.bool true)] [] := by
  intro b sp hd
  rw [hrt]
  exact trodAll_cons_mk (p := []) (p' := []) (Go.RowKit.shut_bool hb _) rfl
 have hold : ∀ x ∈ p, (fun b => decide (b < W.heap.size)) x.block = true := fun x hx => by simpa using hlt x hx
 refine ⟨ds, [], p, [], p, [], hW', ?_, ?_, ?_, World.keptBut_mono (fun x hx => ⟨hx, .inr (.inl hx)⟩) (hB.frame _), fun _ => ?_⟩
 ·rw [List.append_nil, hs]; exact hres _ _ _
 ·rw [List.append_nil, hs]; exact hargs _ hold
 ·rw [hv, List.append_nil, hs]; rfl
 ·refine ⟨?_, [.lit (.bool true)] ++ ds, [], p, ⟨p, [], ?_, ?_, by simp, ?_, fun ha => hnd ha⟩, ?_⟩
  ·intro j t r h1 h2
   rw [hrt] at h1 h2
   cases j with
   | zero =>
    simp at h1
    subst h1
    have : r = .bool true := by simpa [Value.resultList] using h2.symm
    subst this
    exact Go.RowKit.okWide_bool_mk hb _
   | succ j => simp at h1
  ·have := Go.ChangeShapes.trodAll_append (hargs (fun _ => true) (fun _ _ => rfl)) (hres 0 (fun _ => true) true)
   exact this
  ·rw [hv]; exact (rfl : DataW.TrodVars enc P W' (fun _ => true) [] [] [])
  ·intro b off hp
   rw [hB.frozen (p := ⟨b, off, none⟩) (by have := hlt _ hp; simpa [MemPlace.block] using this)]
   exact hfz b off hp
  ·intro x hx _; simpa using hx
end
def RD {α : Type} (P : Program) (t : TypeId) (sz : Nat) (ef : α → AV) (Q : α → Prop) : Prop := ∀ (H : Type) (enc : TypeId × Value → H) (W : World) (n : Nat) (cs : List Value) (x : DataW H × List MemPlace),
 DataW.trod enc P W 0 (fun _ => true) true n t cs = some x → ∃ a, Q a ∧ cs.length = sz ∧ (∀ c ∈ cs, one c = true) ∧ VR (cxA W) (ef a) cs
section
variable {P : Program}
theorem rd_int {t : TypeId} {k : IntKind} (ht : P.underlying t = some (.int k)) : RD P t 1 (fun x => AV.v (.int k x)) (fun x => (Lit.int k x).wf = true) := by
 intro H enc W n cs x h
 obtain ⟨z, rfl, _, hw⟩ := DataW.trod_int ht h
 exact ⟨z, hw, rfl, by simp [one, Value.oneCell'], .v _ rfl⟩
theorem cell_spot {W : World} {a : Addr} {v : Value} (h : W.cell? a = some v) : a.spot = none ∧ a.block < W.heap.size := by
 unfold World.cell? at h
 split at h
 ·rename_i hb
  split at h
  ·cases h
  ·rename_i hs
   exact ⟨by simpa using hs, (Array.getElem?_eq_some_iff.1 hb).1⟩
 ·cases h
theorem rd_slice {α : Type} {t e : TypeId} {sz : Nat} {ef : α → AV} {Q : α → Prop} (ht : P.underlying t = some (.slice e)) (hc : P.cellsOf e = sz) (h0 : 0 < sz) (hr : RD P e sz ef Q) : RD P t 1 (fun l : List α => AV.lst false sz (l.map ef)) (fun l => (∀ a ∈ l, Q a) ∧ l.length ≤ maxLen) := by
 intro H enc W n cs x h
 rcases Go.Deep.open_slice ht h with ⟨rfl, _⟩ | ⟨a, len, cap, m, n', D, Pl, rfl, _, hle, hmax, hm, _, hx⟩
 ·refine ⟨[], ⟨by simp, by simp⟩, rfl, by simp [one, Value.oneCell'], ?_⟩
  exact .lst false sz [] none 0 (fun _ => []) (Nat.le_refl _) (by simp) (by simp) (by simp)
 ·have hx2 : ∀ i, i < len → ∃ v, Q v ∧ ∃ cs', W.cells? 0 (a.add (i * sz)) sz = some cs' ∧ cs'.length = sz ∧ VR (cxA W) (ef v) cs' := by
   intro i hi
   have him : i < m := by rw [hm]; split <;> omega
   obtain ⟨cs', c1, c2⟩ := hx i him
   rw [hc] at c1
   obtain ⟨v, q1, q2, _, q4⟩ := hr H enc W n' cs' _ c2
   exact ⟨v, q1, cs', c1, q2, q4⟩
  have key : ∀ k, k ≤ len → ∃ l : List α, l.length = k ∧ (∀ v ∈ l, Q v) ∧ ∀ (i : Nat) v, l[i]? = some v → ∃ cs', W.cells? 0 (a.add (i * sz)) sz = some cs' ∧ cs'.length = sz ∧ VR (cxA W) (ef v) cs' := by
   intro k
   induction k with
   | zero => intro _; exact ⟨[], rfl, by simp, by simp⟩
   | succ k ih =>
    intro hk
    obtain ⟨l, l1, l2, l3⟩ := ih (by omega)
    obtain ⟨v, v1, v2⟩ := hx2 k (by omega)
    refine ⟨l ++ [v], by simp [l1], ?_, fun i u hu => ?_⟩
    ·intro u hu
     rcases List.mem_append.1 hu with hu | hu
     ·exact l2 u hu
     ·simp at hu; subst hu; exact v1
    ·rcases Nat.lt_or_ge i l.length with hi | hi
     ·rw [List.getElem?_append_left hi] at hu; exact l3 i u hu
     ·have hi2 : i < (l ++ [v]).length := (List.getElem?_eq_some_iff.1 hu).1
      simp at hi2
      have : i = l.length := by omega
      subst this
      simp at hu
      subst hu
      rw [l1]; exact v2
  obtain ⟨l, l1, l2, l3⟩ := key len (Nat.le_refl _)
  refine ⟨l, ⟨l2, by omega⟩, rfl, by simp [one, Value.oneCell'], ?_⟩
  have hcells : ∀ i, ∃ cs', ∀ v, l[i]? = some v → W.cells? 0 (a.add (i * sz)) sz = some cs' ∧ cs'.length = sz ∧ VR (cxA W) (ef v) cs' := by
   intro i
   cases hl : l[i]? with
   | none => exact ⟨[], by intro v h; cases h⟩
   | some v =>
    obtain ⟨cs', h⟩ := l3 i v hl
    exact ⟨cs', by intro u hu; cases hu; exact h⟩
  have hch := Classical.axiomOfChoice hcells
  obtain ⟨cells, hcl⟩ := hch
  have hsp : 0 < len → a.spot = none ∧ a.block < W.heap.size := by
   intro hlen
   have hi : l[0]? = some l[0] := List.getElem?_eq_getElem (by omega)
   obtain ⟨c1, c2, _⟩ := hcl 0 _ hi
   obtain ⟨_, c3, c4⟩ := World.cells?_some c1
   have := c4 0 h0
   rw [List.getElem?_eq_getElem (by omega)] at this
   have e : (a.add (0 * sz)).add 0 = a := by simp [Addr.add]
   rw [e] at this
   exact cell_spot this
  have := VR.lst (C := cxA W) false sz (l.map ef) (some a) cap cells (by simp [l1]; exact hle) (by
   intro j x hx
   rw [List.getElem?_map] at hx
   obtain ⟨v, hv, rfl⟩ := Option.map_eq_some_iff.1 hx
   exact (hcl j v hv).2.2) (by
   intro j hj
   simp only [List.length_map] at hj
   exact (hcl j _ (List.getElem?_eq_getElem hj)).2.1) (by
   intro j hj
   simp only [List.length_map] at hj
   obtain ⟨s1, s2⟩ := hsp (by omega)
   have hB : (cxA W).B false a.block := by
    refine ⟨s2, ?_, .inr (.inr ⟨rfl, s2⟩)⟩
    rintro ⟨_, _, _, h, _⟩
    cases h
   refine ⟨a, rfl, s1, hB, fun i u hu => ?_⟩
   obtain ⟨c1, c2, _⟩ := hcl j _ (List.getElem?_eq_getElem hj)
   obtain ⟨_, c3, c4⟩ := World.cells?_some c1
   have hi : i < sz := by have := (List.getElem?_eq_some_iff.1 hu).1; omega
   have := c4 i hi
   rw [hu] at this
   show W.cell? _ = _
   rw [← this]
   congr 1
   exact (Go.Deep.add_add a (j * sz) i).symm)
  simpa [l1] using this
end
theorem laid_head {P : Program} {W : World} {name : String} {k : IntKind} {zs : List Int} {rest : List (String × DataW Unit)} {g : Nat} {t e : TypeId} {n : Nat}
    (hg : P.globalNamed name = some g) (hty : (P.globals[g]?).map (·.type) = some t) (ht : P.underlying t = some (.array n e)) (he : P.underlying e = some (.int k)) (hce : P.cellsOf e = 1) (hct : P.cellsOf t = n) (h0 : 0 < zs.length)
    (h : laidMet P ((name, Lib.tabData k zs) :: rest) W) : ∃ ty, W.heap[g]? = some (.cells (zs.map fun z => Value.int k z).toArray ty (0, 0)) := by
 obtain ⟨ps, ⟨g', t', cs, fuel, p, q, e1, e2, e3, e4, _, e6⟩, _, hc⟩ := h
 obtain rfl := Option.some.inj (hg.symm.trans e1)
 obtain rfl := Option.some.inj (hty.symm.trans e2)
 have hcs := Lib.cells_of_tab ht he hce hct e4
 have hcs2 : cs = (zs.map fun z => Value.int k z).toArray := by rw [← hcs]
 have hsz : 0 < cs.size := by rw [hcs2]; simpa using h0
 obtain ⟨⟨c, ty, hh⟩, _⟩ := hc g 0 (by
  rw [e6]
  refine List.mem_append_left _ (List.mem_append_left _ (MemPlace.mem_row.2 ⟨0, hsz, rfl⟩)))
 unfold World.var? at e3
 rw [hg] at e3
 simp only [Option.bind_some, hh, Option.some.injEq] at e3
 exact ⟨ty, by rw [hh, e3, hcs2]⟩
end Go.Ar
namespace Go.Ar.Mm
abbrev KK : Nat := 1000
section
variable {α β σ ρ : Type}
theorem ixN {l : List α} {j : Nat} {x : α} {k : α → Option β} (h : l[j]? = some x) : ixP l (j : Int) k = k x := by
 unfold ixP; simp [h]
theorem ix0 {x : α} {l : List α} {k : α → Option β} : ixP (x :: l) 0 k = k x := by unfold ixP; simp
theorem bdN {n j : Nat} {k : Nat → Option β} (h : j < n) : bdP n (j : Int) k = k j := by
 unfold bdP; simp [h]
theorem gtN {l : List α} {j : Nat} {x : α} {k : α → Option β} (h : l[j]? = some x) : gtP l j k = k x := by
 unfold gtP; simp [h]
theorem slN {l : List α} {a b : Nat} {k : List α → Option β} (h1 : a ≤ b) (h2 : b ≤ l.length) : slP l (a : Int) (b : Int) k = k ((l.take b).drop a) := by
 unfold slP
 rw [if_pos (by omega), if_pos (by omega), if_pos (by simpa using h2)]; simp
theorem slN0 {l : List α} {b : Nat} {k : List α → Option β} (h2 : b ≤ l.length) : slP l 0 (b : Int) k = k (l.take b) := by
 have := slN (l := l) (a := 0) (b := b) (k := k) (Nat.zero_le _) h2
 simpa using this
theorem slNl {l : List α} {a : Nat} {k : List α → Option β} (h2 : a ≤ l.length) : slP l (a : Int) (l.length : Int) k = k (l.drop a) := by
 have := slN (l := l) (a := a) (b := l.length) (k := k) h2 (Nat.le_refl _)
 simpa using this
theorem apN {b n m : Nat} {k : Option β} (h : n + m ≤ 1000000) (hb : b ≤ 100) : apP b n m k = k := by
 unfold apP
 have : (n + m) * b ≤ 1000000 * 100 := Nat.mul_le_mul h hb
 rw [if_pos (by omega), if_pos (by omega)]
theorem mkN {b n : Nat} {k : Nat → Option β} (h : n ≤ 1000000) (hb : b ≤ 100) : mkP b (n : Int) k = k n := by
 unfold mkP
 have : b * n ≤ 100 * 1000000 := Nat.mul_le_mul hb h
 rw [if_pos (by omega), if_pos (by simp; omega)]; simp
theorem nzN {q : Int} {k : Option β} (h : q ≠ 0) : nzP q k = k := by unfold nzP; rw [if_neg h]
theorem nnN {q : Int} {k : Option β} (h : 0 ≤ q) : nnP q k = k := by unfold nnP; rw [if_pos h]
theorem guN {c : Prop} [Decidable c] {k : Option β} (h : c) : guP c k = k := by unfold guP; rw [if_pos h]
theorem lenN_ {α β : Type} {l l' : List α} {k : Option β} (h : l'.length = l.length) : lenP l l' k = k := by unfold lenP; rw [if_pos h]
theorem w64N {x : Int} (h1 : -1000000000000 ≤ x) (h2 : x ≤ 1000000000000) : w64 x = x := w64_of (by omega) (by omega)
theorem w64s {j : Nat} (h : j ≤ 1000000) : w64 ((j : Int) + 1) = ((j + 1 : Nat) : Int) := by rw [w64N] <;> omega
theorem w64c {j : Nat} (h : j ≤ 1000000) : w64 (j : Int) = (j : Int) := by rw [w64N] <;> omega
theorem ltT {j n : Nat} (h : j < n) : decide ((j : Int) < (n : Int)) = true := by simpa using h
theorem ltF {j n : Nat} (h : n ≤ j) : decide ((j : Int) < (n : Int)) = false := by simpa using h
theorem loopI' (l : List α) (L : Nat → Nat → σ → Option ρ) (G : List α → σ → Option ρ) (Inv : Nat → σ → Prop)
    (h0 : ∀ n s, Inv l.length s → L (n + 1) l.length s = G [] s)
    (h1 : ∀ n j s x rest, Inv j s → j < l.length → l[j]? = some x → l.drop (j + 1) = rest → (∀ s', Inv (j + 1) s' → L n (j + 1) s' = G rest s') → L (n + 1) j s = G (x :: rest) s) :
    ∀ m j n s, l.length - j = m → j ≤ l.length → m < n → Inv j s → L n j s = G (l.drop j) s := by
 intro m
 induction m with
 | zero =>
  intro j n s hm hj hn hi
  have e : j = l.length := by omega
  subst e
  obtain ⟨n, rfl⟩ : ∃ k, n = k + 1 := ⟨n - 1, by omega⟩
  rw [List.drop_length]; exact h0 n s hi
 | succ m ih =>
  intro j n s hm hj hn hi
  have hlt : j < l.length := by omega
  obtain ⟨n, rfl⟩ : ∃ k, n = k + 1 := ⟨n - 1, by omega⟩
  rw [List.drop_eq_getElem_cons hlt]
  exact h1 n j s l[j] _ hi hlt (List.getElem?_eq_getElem hlt) rfl fun s' hs' => ih (j + 1) n s' (by omega) (by omega) (by omega) hs'
theorem loopL (l : List α) (L : Nat → Nat → σ → Option ρ) (G : List α → σ → Option ρ) (Inv : Nat → σ → Prop)
    (h0 : ∀ n s, Inv l.length s → L (n + 1) l.length s = G [] s)
    (h1 : ∀ n j s x rest, Inv j s → j < l.length → l[j]? = some x → l.drop (j + 1) = rest → (∀ s', Inv (j + 1) s' → L n (j + 1) s' = G rest s') → L (n + 1) j s = G (x :: rest) s)
    {n : Nat} {s : σ} (hn : l.length < n) (hi : Inv 0 s) : L n 0 s = G l s := by
 have := loopI' l L G Inv h0 h1 l.length 0 n s (by omega) (by omega) hn hi
 simpa using this
theorem loopC (m : Nat) (L : Nat → Nat → σ → Option ρ) (G : Nat → σ → Option ρ) (Inv : Nat → σ → Prop)
    (h0 : ∀ n s, Inv m s → L (n + 1) m s = G m s)
    (h1 : ∀ n j s, Inv j s → j < m → (∀ s', Inv (j + 1) s' → L n (j + 1) s' = G (j + 1) s') → L (n + 1) j s = G j s) :
    ∀ {j n : Nat} {s : σ}, j ≤ m → m - j < n → Inv j s → L n j s = G j s := by
 intro j n s hj hn hi
 generalize hd : m - j = d at hn
 induction d generalizing j n s with
 | zero =>
  have e : j = m := by omega
  subst e
  obtain ⟨n, rfl⟩ : ∃ k, n = k + 1 := ⟨n - 1, by omega⟩
  exact h0 n s hi
 | succ d ih =>
  obtain ⟨n, rfl⟩ : ∃ k, n = k + 1 := ⟨n - 1, by omega⟩
  exact h1 n j s hi (by omega) fun s' hs' => ih (by omega) hs' (by omega) (by omega)
end
theorem idx_ne {α : Type} [DecidableEq α] {x y : α} {l : List α} (h : y ≠ x) : (y :: l).idxOf x = l.idxOf x + 1 := by
 rw [List.idxOf_cons]; have : (y == x) = false := by simpa using h
 simp [this]
def plc (l : List Int) (x : Int) : Int := if x ∈ l then (l.idxOf x : Int) else -1
theorem r13_Place {l : List Int} (x : Int) (hl : l.length < 1000) : p_r13_Place KK l x = some (plc l x) := by
 have key : ∀ j : Nat, j ≤ l.length → ∀ n, l.length - j < n → p_r13_Place_L1 KK l x n (j : Int) = if x ∈ l.drop j then some (.inr (((l.drop j).idxOf x + j : Nat) : Int)) else some (.inl ()) := by
  intro j hj n hn
  have := loopI' (σ := Unit) l (fun n j _ => p_r13_Place_L1 KK l x n (j : Int)) (fun r _ => if x ∈ r then some (.inr (((r.idxOf x : Int) + l.length - r.length))) else some (.inl ())) (fun _ _ => True)
   (fun n s _ => by
    simp only [p_r13_Place_L1, ltF (Nat.le_refl _), cond_false, List.not_mem_nil, if_false])
   (fun n j s y rest _ hlt hx hr ih => by
    have ih := ih () trivial
    have hlen : rest.length = l.length - (j + 1) := by rw [← hr]; simp
    simp only [p_r13_Place_L1, ltT hlt, cond_true, ixN hx]
    by_cases e : y = x
    ·subst e
     simp; omega
    ·have e1 : (y == x) = false := by simpa using e
     have e2 : ¬ x = y := fun h => e h.symm
     rw [e1, cond_false, w64s (by omega), ih]
     simp only [List.mem_cons, e2, false_or]
     split
     ·rw [idx_ne e]; simp only [List.length_cons]; congr 2; omega
     ·rfl)
   (l.length - j) j n () rfl hj hn trivial
  rw [this]
  split
  ·congr 2; simp; omega
  ·rfl
 have := key 0 (Nat.zero_le _) KK (by show _ < 1000; omega)
 unfold p_r13_Place
 rw [show (0 : Int) = ((0 : Nat) : Int) from rfl, this]
 simp only [List.drop_zero, plc]
 split <;> rfl
theorem idx_eq : ∀ (l : List Int) (x : Int) (n : Nat) (i : Int), p_slices_Index_Sint_int_L1 KK l x n i = p_r13_Place_L1 KK l x n i := by
 intro l x n
 induction n with
 | zero => intro i; rfl
 | succ n ih =>
  intro i
  simp only [p_slices_Index_Sint_int_L1, p_r13_Place_L1, ih]
  have : ∀ v : Int, (x == v) = (v == x) := fun v => by rw [Bool.eq_iff_iff]; simp only [beq_iff_eq]; exact eq_comm
  simp only [this]
theorem slices_Index {l : List Int} (x : Int) (hl : l.length < 1000) : p_slices_Index_Sint_int KK l x = some (plc l x) := by
 have := r13_Place x hl
 unfold p_r13_Place at this
 unfold p_slices_Index_Sint_int
 rw [idx_eq]; exact this
theorem slices_Contains {l : List Int} (x : Int) (hl : l.length < 1000) : p_slices_Contains_Sint_int KK l x = some (decide (x ∈ l)) := by
 unfold p_slices_Contains_Sint_int
 rw [slices_Index x hl]
 simp only [Option.bind_some, plc]
 split
 ·simp_all
 ·simp_all
end Go.Ar.Mm
namespace Go.Ar.Mm
structure Rg (l : List Int) : Prop where
 len : l.length < 900
 rng : ∀ x ∈ l, 0 ≤ x ∧ x ≤ 10000
 nd : l.Nodup
theorem r13_Right {l : List Int} (h : Rg l) : p_r13_Right KK l = some true := by
 have hl := h.len
 have := loopL (σ := Unit) (ρ := Sum Unit Bool) l (fun n j _ => p_r13_Right_L1 KK l n (j : Int)) (fun _ _ => some (.inl ())) (fun _ _ => True)
     (fun n s _ => by simp only [p_r13_Right_L1, ltF (Nat.le_refl _), cond_false])
     (fun n j s y rest _ hlt hx hr ih => by
      have ih := ih () trivial
      have hy := h.rng y (List.mem_of_getElem? hx)
      have e1 : decide (y < 0) = false := by simpa using hy.1
      have e2 : decide (y > 10000) = false := by simpa using hy.2
      have hn : y ∉ l.take j := by
       intro hm
       obtain ⟨i, hi, e⟩ := List.mem_take_iff_getElem.1 hm
       have hil : i < l.length := by omega
       have h1 : l[i]? = some y := by rw [List.getElem?_eq_getElem hil, e]
       have := (List.getElem?_inj hil h.nd).1 (h1.trans hx.symm)
       omega
      simp only [p_r13_Right_L1, ltT hlt, cond_true, ixN hx, e1, e2, cond_false, slN0 (Nat.le_of_lt hlt)]
      rw [r13_Place y (by simp; omega)]
      simp only [Option.bind_some, plc, if_neg hn]
      rw [show decide ((-1 : Int) ≥ 0) = false from rfl, cond_false, w64s (by omega)]
      exact ih)
     (n := KK) (s := ()) (by show _ < 1000; omega) trivial
 unfold p_r13_Right
 rw [show decide ((l.length : Int) > 1000) = false by simp; omega, cond_false]
 rw [show (0 : Int) = ((0 : Nat) : Int) from rfl, this]; rfl
theorem contains_no {l : List Int} {f : Int → Option Bool} (hl : l.length < 1000) (h : ∀ x ∈ l, f x = some false) : p_slices_ContainsFunc_Sint_int KK l f = some false := by
 have := loopL (σ := Unit) (ρ := Sum Unit Int) l (fun n j _ => p_slices_IndexFunc_Sint_int_L1 KK l f n (j : Int)) (fun _ _ => some (.inl ())) (fun _ _ => True)
     (fun n s _ => by simp only [p_slices_IndexFunc_Sint_int_L1, ltF (Nat.le_refl _), cond_false])
     (fun n j s y rest _ hlt hx hr ih => by
      have ih := ih () trivial
      simp only [p_slices_IndexFunc_Sint_int_L1, ltT hlt, cond_true, ixN hx, h y (List.mem_of_getElem? hx), Option.bind_some, cond_false]
      rw [w64s (by omega)]
      exact ih)
     (n := KK) (s := ()) hl trivial
 unfold p_slices_ContainsFunc_Sint_int p_slices_IndexFunc_Sint_int
 rw [show (0 : Int) = ((0 : Nat) : Int) from rfl, this]; rfl
theorem set_new {ν : Type} {m : Mp Int ν} {k : Int} {v : ν} (h : k ∉ m.l.map (·.1)) : (m.set k v).l = m.l ++ [(k, v)] := by simp [Mp.set, Mp.setL, h]
theorem ring_Right {l : List Int} (h : Rg l) : p_ring_Right KK l = some true := by
 have hl := h.len
 have h1 : p_slices_ContainsFunc_Sint_int KK l (fun x0 => p_ring_Right_1 KK x0) = some false := contains_no (by omega) fun x hx => by
  have := h.rng x hx
  unfold p_ring_Right_1
  rw [show decide (x < 0) = false by simpa using this.1, cond_false]
  simpa using this.2
 have h2 : p_ring_once_int_L1 KK l KK ((0 : Nat) : Int) (Mp.empty : Mp Int Int) = some (l.foldl (fun m x => m.set x (w64 (((m.get? x).getD 0) + 1))) Mp.empty) :=
  loopL (ρ := Mp Int Int) l (fun n j m => p_ring_once_int_L1 KK l n (j : Int) m) (fun r m => some (r.foldl (fun m x => m.set x (w64 (((m.get? x).getD 0) + 1))) m)) (fun _ _ => True)
   (fun n s _ => by simp only [p_ring_once_int_L1, ltF (Nat.le_refl _), cond_false]; rfl)
   (fun n j s y rest _ hlt hx hr ih => by
    have ih := ih (s.set y (w64 (((s.get? y).getD 0) + 1))) trivial
    simp only [p_ring_once_int_L1, ltT hlt, cond_true, ixN hx]
    rw [w64s (by omega)]
    exact ih)
   (n := KK) (by show _ < 1000; omega) trivial
 have h3 : ∀ (r : List Int) (m : Mp Int Int), (m.l.map (·.1) ++ r).Nodup → ((r.foldl (fun m x => m.set x (w64 (((m.get? x).getD 0) + 1))) m).l.map (·.1)) = m.l.map (·.1) ++ r := by
  intro r
  induction r with
  | nil => intro m _; simp
  | cons x r ih =>
   intro m hn
   have hx : x ∉ m.l.map (·.1) := fun hm => (List.nodup_append.1 hn).2.2 x hm x (by simp) rfl
   have e := set_new (v := w64 (((m.get? x).getD 0) + 1)) hx
   rw [List.foldl_cons, ih]
   ·rw [e]; simp
   ·rw [e]; simpa using hn
 unfold p_ring_Right p_ring_once_int
 rw [show decide ((l.length : Int) > 1000) = false by simp; omega, cond_false, h1]
 simp only [Option.bind_some, Bool.not_false, cond_true]
 rw [show (0 : Int) = ((0 : Nat) : Int) from rfl, h2]
 simp only [Option.bind_some]
 have : (l.foldl (fun m x => m.set x (w64 (((m.get? x).getD 0) + 1))) (Mp.empty : Mp Int Int)).l.length = l.length := by
  rw [← List.length_map (f := fun p : Int × Int => p.1), h3 l Mp.empty (by simpa [Mp.empty] using h.nd)]
  simp [Mp.empty]
 simp only [Mp.len, this]
 simp
end Go.Ar.Mm
namespace Go.Ar.Mm
def trn (l : List Int) (x : Int) : List Int := l.drop (l.idxOf x) ++ l.take (l.idxOf x)
theorem trn_len (l : List Int) (x : Int) : (trn l x).length = l.length := by simp [trn]; omega
theorem r13_From {l : List Int} (h : Rg l) {x : Int} (hx : x ∈ l) : p_r13_From KK l x = some (trn l x, true) := by
 have hl := h.len
 have hi : l.idxOf x < l.length := List.idxOf_lt_length_of_mem hx
 unfold p_r13_From
 rw [r13_Place x (by omega), r13_Right h]
 simp only [Option.bind_some, plc, if_pos hx, Bool.not_true, cond_false]
 rw [show decide (((l.idxOf x : Nat) : Int) < 0) = false by simp, cond_false, slNl (by omega), apN (by simp; omega) (by omega), slN0 (by omega), apN (by simp; omega) (by omega)]
 rfl
theorem concat2 {ls : List (List Int)} (h : (ls.map List.length).sum < 100000) (hl : ls.length < 1000) : p_slices_Concat_Sint_int KK ls = some ls.flatten := by
 have h1 : p_slices_Concat_Sint_int_L1 KK ls KK 0 ((0 : Nat) : Int) = some ((ls.map List.length).sum : Int) := by
  have := loopL (σ := Int) (ρ := Int) ls (fun n j s => p_slices_Concat_Sint_int_L1 KK ls n s (j : Int)) (fun r s => some (s + ((r.map List.length).sum : Nat))) (fun j s => s = (((ls.take j).map List.length).sum : Nat))
   (fun n s _ => by simp only [p_slices_Concat_Sint_int_L1, ltF (Nat.le_refl _), cond_false]; simp)
   (fun n j s y rest hs hlt hx hr ih => by
    have e : ls = ls.take j ++ y :: rest := by
     rw [← hr]
     obtain ⟨hj, e⟩ := List.getElem?_eq_some_iff.1 hx
     rw [← e, ← List.drop_eq_getElem_cons hj, List.take_append_drop]
    have e2 := congrArg (fun l => (l.map List.length).sum) e
    simp only [List.map_append, List.sum_append, List.map_cons, List.sum_cons] at e2
    have hw : w64 (s + (y.length : Int)) = s + (y.length : Int) := by rw [w64N] <;> omega
    have ih := ih (s + (y.length : Int)) (by
     rw [List.take_add_one, hx]; simp only [Option.toList_some, List.map_append, List.map_cons, List.map_nil, List.sum_append, List.sum_cons, List.sum_nil]; rw [hs]; omega)
    simp only [p_slices_Concat_Sint_int_L1, ltT hlt, cond_true, ixN hx, hw]
    rw [show decide (s + (y.length : Int) < 0) = false by simp; omega, cond_false, w64s (by omega), ih]
    simp only [List.map_cons, List.sum_cons]; congr 1; omega)
   (n := KK) (s := 0) hl rfl
  simpa using this
 have h2 : p_slices_Concat_Sint_int_L2 KK ls KK ((0 : Nat) : Int) ([] : List Int) = some ([] ++ ls.flatten) :=
  loopL (σ := List Int) (ρ := List Int) ls (fun n j s => p_slices_Concat_Sint_int_L2 KK ls n (j : Int) s) (fun r s => some (s ++ r.flatten)) (fun j s => s.length = ((ls.take j).map List.length).sum)
   (fun n s _ => by simp only [p_slices_Concat_Sint_int_L2, ltF (Nat.le_refl _), cond_false]; simp)
   (fun n j s y rest hs hlt hx hr ih => by
    have e : ls = ls.take j ++ y :: rest := by
     rw [← hr]
     obtain ⟨hj, e⟩ := List.getElem?_eq_some_iff.1 hx
     rw [← e, ← List.drop_eq_getElem_cons hj, List.take_append_drop]
    have e2 := congrArg (fun l => (l.map List.length).sum) e
    simp only [List.map_append, List.sum_append, List.map_cons, List.sum_cons] at e2
    have ih := ih (s ++ y) (by
     rw [List.take_add_one, hx]; simp only [Option.toList_some, List.map_append, List.map_cons, List.map_nil, List.sum_append, List.sum_cons, List.sum_nil, List.length_append]; rw [hs]; omega)
    simp only [p_slices_Concat_Sint_int_L2, ltT hlt, cond_true, ixN hx]
    rw [apN (by omega) (by omega), w64s (by omega), ih]
    simp)
   (n := KK) hl (by simp)
 unfold p_slices_Concat_Sint_int
 rw [show (0 : Int) = ((0 : Nat) : Int) from rfl]
 rw [show ((0 : Nat) : Int) = 0 from rfl] at h1 ⊢
 rw [h1]
 simp only [Option.bind_some]
 rw [mkN (by omega) (by omega)]
 rw [show ((0 : Nat) : Int) = 0 from rfl] at h2
 rw [h2]; simp
theorem ring_turned {l : List Int} {i : Nat} (hi : i ≤ l.length) (hl : l.length < 900) : p_ring_turned KK l (i : Int) = some (l.drop i ++ l.take i) := by
 unfold p_ring_turned
 rw [slNl hi, slN0 hi, concat2 (by simp; omega) (by simp)]
 simp
theorem ring_From {l : List Int} (h : Rg l) {x : Int} (hx : x ∈ l) : p_ring_From KK l x = some (trn l x, true) := by
 have hl := h.len
 have hi : l.idxOf x < l.length := List.idxOf_lt_length_of_mem hx
 have h1 : p_ring_places_L1 KK [x] l KK 0 [] = some [plc l x] := by
  have := loopL (σ := List Int) (ρ := List Int) [x] (fun n j s => p_ring_places_L1 KK [x] l n (j : Int) s) (fun r s => some (s ++ r.map (plc l))) (fun j s => s.length = j)
   (fun n s _ => by simp only [p_ring_places_L1, ltF (Nat.le_refl _), cond_false]; simp)
   (fun n j s y rest hs hlt hx hr ih => by
    have ih := ih (s ++ [plc l y]) (by simp [hs])
    simp at hlt
    simp only [p_ring_places_L1, List.length_singleton, ltT (show j < 1 by omega), cond_true, ixN hx, slices_Index y (show l.length < 1000 by omega), Option.bind_some]
    rw [apN (by omega) (by omega), w64s (by omega), ih]; simp)
   (n := KK) (s := []) (by show 1 < 1000; omega) rfl
  simpa using this
 have hp : plc l x = (l.idxOf x : Int) := by simp [plc, hx]
 unfold p_ring_From p_ring_places
 rw [ring_Right h]
 simp only [Option.bind_some, Bool.not_true, cond_false, h1]
 rw [slices_Contains _ (by simp)]
 simp only [Option.bind_some, List.mem_singleton]
 rw [show decide ((-1 : Int) = plc l x) = false by rw [hp]; simp]
 simp only [Bool.not_false, Bool.not_true, cond_false, ix0]
 rw [hp, ring_turned (by omega) hl]
 rfl
def mn (l : List Int) (d : Int) : Int := l.foldl (fun a b => if b < a then b else a) d
theorem mn_self (l : List Int) (d : Int) : mn (d :: l) d = mn l d := by simp [mn]
theorem r13_Plain_L1 {l : List Int} (hl : l.length < 1000) (d : Int) : p_r13_Plain_L1 KK l KK d 0 = some (mn l d) := by
 have := loopL (σ := Int) (ρ := Int) l (fun n j s => p_r13_Plain_L1 KK l n s (j : Int)) (fun r s => some (mn r s)) (fun _ _ => True)
     (fun n s _ => by simp only [p_r13_Plain_L1, ltF (Nat.le_refl _), cond_false]; rfl)
     (fun n j s y rest _ hlt hx hr ih => by
      have ih := ih (if y < s then y else s) trivial
      simp only [p_r13_Plain_L1, ltT hlt, cond_true, ixN hx]
      rw [w64s (by omega), ih]
      rfl)
     (n := KK) (s := d) hl trivial
 simpa using this
theorem min_L1 {l : List Int} {y : Int} (hl : (y :: l).length < 1000) : p_slices_Min_Sint_int KK (y :: l) = some (mn (y :: l) y) := by
 have := loopI' (σ := Int) (ρ := Int) (y :: l) (fun n j s => p_slices_Min_Sint_int_L1 KK (y :: l) n s (j : Int)) (fun r s => some (mn r s)) (fun _ _ => True)
     (fun n s _ => by simp only [p_slices_Min_Sint_int_L1, ltF (Nat.le_refl _), cond_false]; rfl)
     (fun n j s z rest _ hlt hx hr ih => by
      have ih := ih (if z < s then z else s) trivial
      simp only [p_slices_Min_Sint_int_L1, ltT hlt, cond_true, ixN hx]
      rw [w64s (by omega), ih]
      rfl)
     l.length 1 KK y (by simp) (by simp) (by simp at hl; show _ < 1000; omega) trivial
 unfold p_slices_Min_Sint_int
 rw [show decide (((y :: l).length : Int) < 1) = false by simp; omega, cond_false]
 simp only [Option.bind_some, ix0]
 rw [show (1 : Int) = ((1 : Nat) : Int) from rfl, this]
 simp [mn_self]
theorem r13_Plain {l : List Int} (h : Rg l) {y : Int} {t : List Int} (e : l = y :: t) (hm : mn l y ∈ l) : p_r13_Plain KK l = some (trn l (mn l y)) := by
 have hl := h.len
 unfold p_r13_Plain
 rw [r13_Right h]
 simp only [Option.bind_some, Bool.not_true, cond_false]
 rw [show ((l.length : Int) == 0) = false by subst e; simp; omega, cond_false]
 have : ∀ k : Int → Option (List Int), ixP l 0 k = k y := fun k => by subst e; exact ix0
 rw [this, r13_Plain_L1 (by omega)]
 simp only [Option.bind_some]
 rw [r13_From h hm]; rfl
theorem ring_Plain {l : List Int} (h : Rg l) {y : Int} {t : List Int} (e : l = y :: t) (hm : mn l y ∈ l) : p_ring_Plain KK l = some (trn l (mn l y)) := by
 have hl := h.len
 have hi : l.idxOf (mn l y) < l.length := List.idxOf_lt_length_of_mem hm
 unfold p_ring_Plain
 rw [ring_Right h]
 simp only [Option.bind_some, Bool.not_true, cond_false]
 rw [show ((l.length : Int) == 0) = false by subst e; simp; omega, cond_false]
 have : p_slices_Min_Sint_int KK l = some (mn l y) := by subst e; exact min_L1 (by omega)
 rw [this]
 simp only [Option.bind_some]
 rw [slices_Index _ (by omega)]
 simp only [Option.bind_some, plc, if_pos hm]
 rw [ring_turned (by omega) hl]; rfl
end Go.Ar.Mm
namespace ArTour
inductive Tok where
 | V (v : Nat)
 | A (u v : Nat)
 deriving DecidableEq, Repr
open Tok
def Tok.stand : Tok → Nat
 | V v => v
 | A _ v => v
inductive Ex : Bool → Nat → List Tok → Prop
 | nil (r) : Ex false r []
 | tok (r s) : Ex false r s → Ex true r (V r :: s)
 | go (b r c s1 s2) : Ex true c s1 → Ex b r s2 → Ex b r (A r c :: (s1 ++ A c r :: s2))
def pos (r : Nat) (x : List Tok) : Nat := x.foldl (fun _ t => t.stand) r
@[simp] theorem pos_nil (r) : pos r [] = r := rfl
@[simp] theorem pos_cons (r t x) : pos r (t :: x) = pos t.stand x := rfl
theorem pos_append (r x y) : pos r (x ++ y) = pos (pos r x) y := by simp [pos, List.foldl_append]
theorem Ex.pos_end {b r s} (h : Ex b r s) : pos r s = r := by
 induction h with
 | nil => rfl
 | tok r s _ ih => simpa [Tok.stand] using ih
 | go b r c s1 s2 _ _ ih1 ih2 => simp [pos_append, Tok.stand, ih1, ih2]
theorem split_mid {α} {s1 s2 x y : List α} {a : α} (h : s1 ++ a :: s2 = x ++ y) :
    (∃ y', s1 = x ++ y' ∧ y = y' ++ a :: s2) ∨ (∃ x', x = s1 ++ a :: x' ∧ s2 = x' ++ y) := by
 rcases List.append_eq_append_iff.1 h with ⟨t, hx, hy⟩ | ⟨t, hx, hy⟩
 ·cases t with
  | nil => left; exact ⟨[], by simpa using hx.symm, by simpa using hy.symm⟩
  | cons c t =>
   right
   simp only [List.cons_append, List.cons.injEq] at hy
   obtain ⟨rfl, hy⟩ := hy
   exact ⟨t, hx, hy⟩
 ·left; exact ⟨t, hx, hy⟩
theorem Ex.insert {b r s} (h : Ex b r s) : ∀ {x y q m}, s = x ++ y → Ex true q m → Ex b r (x ++ A (pos r x) q :: (m ++ A q (pos r x) :: y)) := by
 induction h with
 | nil r =>
  intro x y q m e hm
  have := List.append_eq_nil_iff.1 e.symm
  obtain ⟨rfl, rfl⟩ := this
  exact .go _ _ _ _ _ hm (.nil r)
 | tok r s hs ih =>
  intro x y q m e hm
  cases x with
  | nil =>
   simp only [List.nil_append] at e
   subst e
   exact .go _ _ _ _ _ hm (.tok _ _ hs)
  | cons a x =>
   simp only [List.cons_append, List.cons.injEq] at e
   obtain ⟨rfl, rfl⟩ := e
   exact .tok _ _ (ih rfl hm)
 | go b r c s1 s2 h1 h2 ih1 ih2 =>
  intro x y q m e hm
  cases x with
  | nil =>
   simp only [List.nil_append] at e
   subst e
   exact .go _ _ _ _ _ hm (.go _ _ _ _ _ h1 h2)
  | cons a x =>
   simp only [List.cons_append, List.cons.injEq] at e
   obtain ⟨rfl, e⟩ := e
   rcases split_mid e with ⟨y', rfl, rfl⟩ | ⟨x', rfl, rfl⟩
   ·have := Ex.go _ _ _ _ _ (ih1 (x := x) (y := y') rfl hm) h2
    simpa [Tok.stand] using this
   ·have := Ex.go _ _ _ _ _ h1 (ih2 (x := x') (y := y) rfl hm)
    simpa [pos_append, Tok.stand, h1.pos_end] using this
theorem Ex.snoc {b r s} (h : Ex b r s) : b = false → Ex true r (s ++ [V r]) := by
 induction h with
 | nil r => intro _; exact .tok _ _ (.nil r)
 | tok => intro h; cases h
 | go b r c s1 s2 h1 h2 _ ih2 =>
  intro hb
  have := Ex.go _ _ _ _ _ h1 (ih2 hb)
  simpa using this
theorem Ex.rot {b r s} (h : Ex b r s) : ∀ {x y}, s = x ++ y → Ex true (pos r x) (y ++ (if b then x else V r :: x)) := by
 induction h with
 | nil r =>
  intro x y e
  obtain ⟨rfl, rfl⟩ := List.append_eq_nil_iff.1 e.symm
  exact .tok _ _ (.nil r)
 | tok r s hs ih =>
  intro x y e
  cases x with
  | nil =>
   simp only [List.nil_append] at e
   subst e
   simpa using Ex.tok _ _ hs
  | cons a x =>
   simp only [List.cons_append, List.cons.injEq] at e
   obtain ⟨rfl, rfl⟩ := e
   have := ih (x := x) (y := y) rfl
   simpa [Tok.stand] using this
 | go b r c s1 s2 h1 h2 ih1 ih2 =>
  intro x y e
  cases x with
  | nil =>
   simp only [List.nil_append] at e
   subst e
   cases b with
   | true => simpa using Ex.go _ _ _ _ _ h1 h2
   | false =>
    have := (Ex.go _ _ _ _ _ h1 h2).snoc rfl
    simpa using this
  | cons a x =>
   simp only [List.cons_append, List.cons.injEq] at e
   obtain ⟨rfl, e⟩ := e
   rcases split_mid e with ⟨y', rfl, rfl⟩ | ⟨x', rfl, rfl⟩
   ·have hr := ih1 (x := x) (y := y') rfl
    simp only [if_true] at hr
    have hpos : pos (pos c x) y' = c := by rw [← pos_append]; exact h1.pos_end
    cases b with
    | true =>
     have := hr.insert (x := y') (y := x) rfl h2
     rw [hpos] at this
     simpa [Tok.stand] using this
    | false =>
     have := hr.insert (x := y') (y := x) rfl (h2.snoc rfl)
     rw [hpos] at this
     simpa [Tok.stand] using this
   ·have hr := ih2 (x := x') (y := y) rfl
    have hp : pos (pos r x') y = r := by rw [← pos_append]; exact h2.pos_end
    cases b with
    | true =>
     simp only [if_true] at hr
     have := hr.insert (x := y) (y := x') rfl h1
     rw [hp] at this
     simpa [pos_append, Tok.stand, h1.pos_end] using this
    | false =>
     simp only [Bool.false_eq_true, if_false] at hr
     have := hr.insert (x := y ++ [V r]) (y := x') (by simp) h1
     have hp' : pos (pos r x') (y ++ [V r]) = r := by simp [pos_append, Tok.stand]
     rw [hp'] at this
     simpa [pos_append, Tok.stand, h1.pos_end] using this
def vs (s : List Tok) : List Nat := s.filterMap fun | V v => some v | _ => none
@[simp] theorem vs_nil : vs [] = [] := rfl
@[simp] theorem vs_V (v s) : vs (V v :: s) = v :: vs s := rfl
@[simp] theorem vs_A (u v s) : vs (A u v :: s) = vs s := rfl
@[simp] theorem vs_append (s t) : vs (s ++ t) = vs s ++ vs t := by simp [vs]
theorem mem_vs {s v} : v ∈ vs s ↔ V v ∈ s := by
 simp only [vs, List.mem_filterMap]
 constructor
 ·rintro ⟨a, ha, h⟩
  cases a <;> simp at h
  subst h; exact ha
 ·intro h; exact ⟨_, h, rfl⟩
theorem Ex.own {b r s} (h : Ex b r s) : b = true → r ∈ vs s := by
 induction h with
 | nil => intro h; cases h
 | tok => intro _; simp
 | go b r c s1 s2 _ _ _ ih2 => intro hb; simp [ih2 hb]
theorem Ex.len {b r s} (h : Ex b r s) : s.length + (if b then 2 else 0) = 3 * (vs s).length := by
 induction h with
 | nil => rfl
 | tok r s _ ih => simp at ih ⊢; omega
 | go b r c s1 s2 _ _ ih1 ih2 => simp at ih1 ih2 ⊢; cases b <;> simp at ih2 ⊢ <;> omega
theorem Ex.arcs {b r s} (h : Ex b r s) : ∀ {u v}, A u v ∈ s → (u = r ∨ u ∈ vs s) ∧ (v = r ∨ v ∈ vs s) := by
 induction h with
 | nil => intro u v h; cases h
 | tok r s _ ih => intro u v h; simp at h; have := ih h; simp; omega
 | go b r c s1 s2 h1 h2 ih1 ih2 =>
  intro u v h
  have hc := h1.own rfl
  simp only [List.mem_cons, List.mem_append, Tok.A.injEq] at h
  simp only [vs_A, vs_append, List.mem_append]
  rcases h with ⟨rfl, rfl⟩ | h | ⟨rfl, rfl⟩ | h
  ·exact ⟨.inl rfl, .inr (.inl hc)⟩
  ·obtain ⟨a, b⟩ := ih1 h
   constructor
   ·rcases a with rfl | a
    ·exact .inr (.inl hc)
    ·exact .inr (.inl a)
   ·rcases b with rfl | b
    ·exact .inr (.inl hc)
    ·exact .inr (.inl b)
  ·exact ⟨.inr (.inl hc), .inl rfl⟩
  ·obtain ⟨a, b⟩ := ih2 h
   constructor
   ·rcases a with rfl | a
    ·exact .inl rfl
    ·exact .inr (.inr a)
   ·rcases b with rfl | b
    ·exact .inl rfl
    ·exact .inr (.inr b)
theorem Ex.leaf {b r s} (h : Ex b r s) : (∃ u v, A u v ∈ s) → ∃ x y c, s = x ++ A (pos r x) c :: V c :: A c (pos r x) :: y := by
 induction h with
 | nil => rintro ⟨u, v, h⟩; cases h
 | tok r s _ ih =>
  rintro ⟨u, v, h⟩
  simp only [List.mem_cons, reduceCtorEq, false_or] at h
  obtain ⟨x, y, c, e⟩ := ih ⟨u, v, h⟩
  exact ⟨V r :: x, y, c, by simp [Tok.stand]; exact e⟩
 | go b r c s1 s2 h1 h2 ih1 ih2 =>
  intro _
  by_cases ha : ∃ u v, A u v ∈ s1
  ·obtain ⟨x, y, d, e⟩ := ih1 ha
   refine ⟨A r c :: x, y ++ A c r :: s2, d, ?_⟩
   simp only [pos_cons, Tok.stand]
   rw [e]; simp
  ·have : s1 = [V c] := by
    cases h1 with
    | tok r s hs =>
     cases hs with
     | nil => rfl
     | go b r c s1 s2 => exact absurd ⟨_, _, List.mem_cons_of_mem _ List.mem_cons_self⟩ ha
    | go b r c s1 s2 => exact absurd ⟨_, _, List.mem_cons_self⟩ ha
   subst this
   exact ⟨[], s2, c, by simp⟩
theorem Ex.unleaf {b u v rest} (h : Ex b u (A u v :: V v :: A v u :: rest)) (hn : (vs (A u v :: V v :: A v u :: rest)).Nodup) (hb : b = true) : Ex true u rest := by
 subst hb
 generalize e : A u v :: V v :: A v u :: rest = s at h
 cases h with
 | tok => simp at e
 | go _ _ c s1 s2 h1 h2 =>
  simp only [List.cons.injEq, Tok.A.injEq, true_and] at e
  obtain ⟨rfl, e⟩ := e
  cases h1 with
  | go => simp at e
  | tok _ s hs =>
   simp only [List.cons_append, List.cons.injEq, true_and] at e
   cases hs with
   | nil => simp at e; rw [e]; exact h2
   | go _ _ d t1 t2 ht1 ht2 =>
    simp only [List.cons_append, List.cons.injEq, Tok.A.injEq, true_and] at e
    obtain ⟨rfl, e⟩ := e
    have a := ht1.own rfl
    have b := h2.own rfl
    subst e
    simp only [vs_A, vs_V, vs_append, List.nodup_cons, List.append_assoc, List.cons_append] at hn
    have := (List.nodup_append.1 hn.2).2.2 u a u (by simp [b])
    exact absurd rfl this
def Ring (l : List Tok) : Prop := ∃ r, Ex true r l
theorem Ring.rot {x y} (h : Ring (x ++ y)) : Ring (y ++ x) := by
 obtain ⟨r, h⟩ := h
 exact ⟨_, by simpa using h.rot rfl⟩
theorem Ring.at_ {l} (h : Ring l) {r} (hr : ∀ a, pos a l = r) : Ex true r l := by
 obtain ⟨q, h⟩ := h
 have := h.pos_end
 rw [hr] at this
 exact this ▸ h
theorem Ex.head_V {r v l} (h : Ex true r (V v :: l)) : r = v := by cases h; rfl
theorem Ex.head_A {r u v l} (h : Ex true r (A u v :: l)) : r = u := by cases h; rfl
theorem Ring.nodup {b r s} (h : Ex b r s) (hn : (vs s).Nodup) (hr : b = false → r ∉ vs s) : s.Nodup := by
 induction h with
 | nil => simp
 | tok r s hs ih =>
  simp only [vs_V, List.nodup_cons] at hn
  refine List.nodup_cons.2 ⟨fun hm => hn.1 (mem_vs.2 hm), ih hn.2 fun _ => hn.1⟩
 | go b r c s1 s2 h1 h2 ih1 ih2 =>
  simp only [vs_A, vs_append] at hn hr
  obtain ⟨n1, n2, n12⟩ := List.nodup_append.1 hn
  have d1 := ih1 n1 (by simp)
  have d2 := ih2 n2 (fun hb hm => hr hb (by simp [hm]))
  have hc := h1.own rfl
  have rc : r ≠ c := by
   rintro rfl
   cases b with
   | true => exact n12 r hc r (h2.own rfl) rfl
   | false => exact hr rfl (by simp [hc])
  have r1 : r ∉ vs s1 := by
   intro hm
   cases b with
   | true => exact n12 r hm r (h2.own rfl) rfl
   | false => exact hr rfl (by simp [hm])
  have c2 : c ∉ vs s2 := fun hm => n12 c hc c hm rfl
  have k1 : ∀ u v, A u v ∈ s1 → u ≠ r ∧ v ≠ r := by
   intro u v hm
   obtain ⟨a, b⟩ := h1.arcs hm
   constructor
   ·rintro rfl; rcases a with a | a
    ·exact rc a
    ·exact r1 a
   ·rintro rfl; rcases b with a | a
    ·exact rc a
    ·exact r1 a
  have k2 : ∀ u v, A u v ∈ s2 → u ≠ c ∧ v ≠ c := by
   intro u v hm
   obtain ⟨a, b⟩ := h2.arcs hm
   constructor
   ·rintro rfl; rcases a with a | a
    ·exact rc a.symm
    ·exact c2 a
   ·rintro rfl; rcases b with a | a
    ·exact rc a.symm
    ·exact c2 a
  rw [List.nodup_cons]
  refine ⟨?_, List.nodup_append.2 ⟨d1, List.nodup_cons.2 ⟨fun hm => (k2 _ _ hm).1 rfl, d2⟩, ?_⟩⟩
  ·simp only [List.mem_append, List.mem_cons, Tok.A.injEq]
   rintro (hm | ⟨e, _⟩ | hm)
   ·exact (k1 _ _ hm).1 rfl
   ·exact rc e
   ·exact (k2 _ _ hm).2 rfl
  ·intro a ha b hb e
   subst e
   simp only [List.mem_cons] at hb
   rcases hb with rfl | hb
   ·exact (k1 _ _ ha).2 rfl
   ·cases a with
    | V v => exact n12 v (mem_vs.2 ha) v (mem_vs.2 hb) rfl
    | A u v =>
     obtain ⟨a1, _⟩ := h1.arcs ha
     obtain ⟨b1, _⟩ := h2.arcs hb
     have hu : u ∈ vs s1 := by
      rcases a1 with rfl | a1
      ·exact hc
      ·exact a1
     rcases b1 with rfl | b1
     ·exact (k1 _ _ ha).1 rfl
     ·exact n12 u hu u b1 rfl
end ArTour
namespace ArConn
abbrev E := Nat × Nat
def lab1 (f : Nat → Nat) (e : E) : Nat → Nat :=
 fun v => if f v = max (f e.1) (f e.2) then min (f e.1) (f e.2) else f v
def lab (l : List E) : Nat → Nat := l.foldl lab1 id
inductive Conn (l : List E) : Nat → Nat → Prop
 | refl (u) : Conn l u u
 | step {u v w} : Conn l u v → ((v, w) ∈ l ∨ (w, v) ∈ l) → Conn l u w
theorem Conn.trans {l u v w} (h : Conn l u v) (k : Conn l v w) : Conn l u w := by
 induction k with
 | refl => exact h
 | step _ e ih => exact ih.step e
theorem Conn.edge {l u v} (h : (u, v) ∈ l) : Conn l u v := .step (.refl _) (.inl h)
theorem Conn.symm {l u v} (h : Conn l u v) : Conn l v u := by
 induction h with
 | refl => exact .refl _
 | step _ e ih => exact (Conn.step (.refl _) e.symm).trans ih
theorem Conn.mono {l m u v} (h : Conn l u v) (k : ∀ e ∈ l, e ∈ m) : Conn m u v := by
 induction h with
 | refl => exact .refl _
 | step _ e ih => exact ih.step (e.imp (k _) (k _))
theorem lab_snoc (l : List E) (e : E) : lab (l ++ [e]) = lab1 (lab l) e := by simp [lab, List.foldl_append]
theorem lab_le (l : List E) : ∀ v, lab l v ≤ v := by
 suffices h : ∀ m : List E, ∀ v, lab m.reverse v ≤ v by simpa using h l.reverse
 intro m
 induction m with
 | nil => intro v; exact Nat.le_refl v
 | cons e m ih =>
  intro v
  rw [List.reverse_cons, lab_snoc]
  unfold lab1
  have h1 := ih v
  split
  ·rename_i h; omega
  ·exact h1
theorem snoc_induction {P : List E → Prop} (h0 : P []) (h1 : ∀ l e, P l → P (l ++ [e])) (l : List E) : P l := by
 suffices h : ∀ m : List E, P m.reverse by simpa using h l.reverse
 intro m
 induction m with
 | nil => exact h0
 | cons e m ih => rw [List.reverse_cons]; exact h1 _ _ ih
theorem conn_lab (l : List E) : ∀ v, Conn l v (lab l v) := by
 induction l using snoc_induction with
 | h0 => intro v; exact .refl _
 | h1 l e ih =>
  intro v
  rw [lab_snoc]
  have mono : ∀ {a b}, Conn l a b → Conn (l ++ [e]) a b := fun h => h.mono (by simp_all)
  have he : Conn (l ++ [e]) e.1 e.2 := .edge (by simp)
  have h1 := mono (ih v)
  have ha := mono (ih e.1)
  have hb := mono (ih e.2)
  unfold lab1
  split
  ·rename_i h
   rcases Nat.le_total (lab l e.1) (lab l e.2) with hle | hle
   ·rw [Nat.max_eq_right hle] at h
    rw [Nat.min_eq_left hle]
    rw [h] at h1
    exact h1.trans (hb.symm.trans (he.symm.trans ha))
   ·rw [Nat.max_eq_left hle] at h
    rw [Nat.min_eq_right hle]
    rw [h] at h1
    exact h1.trans (ha.symm.trans (he.trans hb))
  ·exact h1
theorem lab_edge (l : List E) : ∀ e ∈ l, lab l e.1 = lab l e.2 := by
 induction l using snoc_induction with
 | h0 => intro e h; cases h
 | h1 l a ih =>
  intro e he
  rw [lab_snoc]
  simp only [List.mem_append, List.mem_singleton] at he
  rcases he with he | rfl
  ·have := ih e he
   unfold lab1
   rw [this]
  ·unfold lab1
   rcases Nat.le_total (lab l e.1) (lab l e.2) with hle | hle
   ·rw [Nat.max_eq_right hle, Nat.min_eq_left hle, if_pos rfl]
    split <;> omega
   ·rw [Nat.max_eq_left hle, Nat.min_eq_right hle, if_pos rfl]
    split <;> omega
theorem lab_eq_iff (l : List E) (u v : Nat) : lab l u = lab l v ↔ Conn l u v := by
 constructor
 ·intro h
  have a := conn_lab l u
  rw [h] at a
  exact a.trans (conn_lab l v).symm
 ·intro h
  induction h with
  | refl => rfl
  | step _ e ih =>
   rw [ih]
   rcases e with e | e
   ·exact lab_edge l _ e
   ·exact (lab_edge l _ e).symm
theorem lab_lab (l : List E) (v : Nat) : lab l (lab l v) = lab l v := ((lab_eq_iff l _ _).2 (conn_lab l v)).symm
theorem lab_least (l : List E) {u v : Nat} (h : Conn l u v) : lab l u ≤ v := by
 rw [(lab_eq_iff l u v).2 h]; exact lab_le l v
theorem lab_unique (l : List E) (c : Nat → Nat) (n : Nat) (h1 : ∀ v, v < n → Conn l v (c v)) (h2 : ∀ v, v < n → c v ≤ v) (h3 : ∀ e ∈ l, e.1 < n ∧ e.2 < n ∧ c e.1 = c e.2) : ∀ v, v < n → c v = lab l v := by
 have key : ∀ u v, Conn l u v → u < n → v < n ∧ c u = c v := by
  intro u v h hu
  induction h with
  | refl => exact ⟨hu, rfl⟩
  | step _ e ih =>
   obtain ⟨hv, ih⟩ := ih
   rcases e with e | e
   ·obtain ⟨a, b, c⟩ := h3 _ e; exact ⟨b, ih.trans c⟩
   ·obtain ⟨a, b, c⟩ := h3 _ e; exact ⟨a, ih.trans c.symm⟩
 intro v hv
 obtain ⟨hl, e⟩ := key v (lab l v) (conn_lab l v) hv
 have a := h2 _ hl
 have b := lab_least l (h1 v hv)
 omega
theorem lab_lt (l : List E) (n v : Nat) (h : v < n) : lab l v < n := Nat.lt_of_le_of_lt (lab_le l v) h
def classes (n : Nat) (l : List E) : Nat := (List.range n).countP fun v => lab l v == v
theorem countP_split {α} (p q : α → Bool) (l : List α) (h : ∀ x ∈ l, q x = true → p x = true) : l.countP p = l.countP q + l.countP (fun x => p x && !q x) := by
 induction l with
 | nil => rfl
 | cons a l ih =>
  have := ih (fun x hx => h x (by simp [hx]))
  simp only [List.countP_cons, this]
  have ha := h a (by simp)
  cases hp : p a <;> cases hq : q a <;> simp_all <;> omega
theorem count_one (n a : Nat) (h : a < n) (p : Nat → Bool) (hp : ∀ v, v < n → (p v = true ↔ v = a)) : (List.range n).countP p = 1 := by
 have : (List.range n).countP p = (List.range n).count a := by
  unfold List.count
  apply List.countP_congr
  intro x hx
  have := hp x (by simpa using hx)
  simp [this]
 rw [this]
 have hn : (List.range n).Nodup := List.nodup_range
 rw [hn.count]
 simp [h]
theorem classes_nil (n : Nat) : classes n [] = n := by
 unfold classes
 rw [List.countP_eq_length.2]
 ·simp
 ·intro a _; simp [lab]
theorem classes_same (n : Nat) (l : List E) (e : E) (h : Conn l e.1 e.2) : classes n (l ++ [e]) = classes n l := by
 unfold classes
 apply List.countP_congr
 intro v _
 have : lab (l ++ [e]) v = lab l v := by
  rw [lab_snoc]; unfold lab1
  have := (lab_eq_iff l e.1 e.2).2 h
  split <;> omega
 rw [this]
theorem classes_join (n : Nat) (l : List E) (e : E) (h1 : e.1 < n) (h2 : e.2 < n) (h : ¬ Conn l e.1 e.2) : classes n (l ++ [e]) + 1 = classes n l := by
 have hne : lab l e.1 ≠ lab l e.2 := fun hh => h ((lab_eq_iff l _ _).1 hh)
 have l1 := lab_lt l n e.1 h1
 have l2 := lab_lt l n e.2 h2
 unfold classes
 rw [countP_split (fun v => lab l v == v) (fun v => lab (l ++ [e]) v == v) (List.range n)]
 ·rw [count_one n (max (lab l e.1) (lab l e.2)) (by omega) (fun x => lab l x == x && !(lab (l ++ [e]) x == x))]
  intro v hv
  rw [lab_snoc]
  unfold lab1
  simp only [Bool.and_eq_true, beq_iff_eq, Bool.not_eq_true', beq_eq_false_iff_ne, ne_eq]
  constructor
  ·rintro ⟨a, b⟩
   split at b
   ·omega
   ·exact absurd a b
  ·rintro rfl
   have : lab l (max (lab l e.1) (lab l e.2)) = max (lab l e.1) (lab l e.2) := by
    rcases Nat.le_total (lab l e.1) (lab l e.2) with hle | hle
    ·rw [Nat.max_eq_right hle]; exact lab_lab l _
    ·rw [Nat.max_eq_left hle]; exact lab_lab l _
   refine ⟨this, ?_⟩
   rw [if_pos this]
   omega
 ·intro v hv
  rw [lab_snoc]
  unfold lab1
  simp only [beq_iff_eq]
  intro b
  split at b
  ·rename_i hm
   have : lab l v = v := by
    have hle := lab_le l v
    have : lab l (min (lab l e.1) (lab l e.2)) = min (lab l e.1) (lab l e.2) := by
     rcases Nat.le_total (lab l e.1) (lab l e.2) with hle | hle
     ·rw [Nat.min_eq_left hle]; exact lab_lab l _
     ·rw [Nat.min_eq_right hle]; exact lab_lab l _
    rw [← b]; exact this
   exact this
  ·exact b
def joins (l : List E) : List E → Nat
 | [] => 0
 | e :: m => (if lab l e.1 = lab l e.2 then 0 else 1) + joins (l ++ [e]) m
theorem classes_joins (n : Nat) (m : List E) : ∀ l : List E, (∀ e ∈ m, e.1 < n ∧ e.2 < n) → classes n (l ++ m) + joins l m = classes n l := by
 induction m with
 | nil => intro l _; simp [joins]
 | cons e m ih =>
  intro l h
  have h' := ih (l ++ [e]) (fun x hx => h x (by simp [hx]))
  rw [List.append_assoc, List.singleton_append] at h'
  obtain ⟨h1, h2⟩ := h e (by simp)
  simp only [joins]
  split
  ·rename_i hl
   rw [classes_same n l e ((lab_eq_iff l _ _).1 hl)] at h'
   omega
  ·rename_i hl
   have := classes_join n l e h1 h2 (fun c => hl ((lab_eq_iff l _ _).2 c))
   omega
end ArConn
namespace ArForest
open ArTour ArConn
open ArTour.Tok
def turn (l : List Tok) (t : Tok) : List Tok := l.drop (l.idxOf t) ++ l.take (l.idxOf t)
theorem turn_eq {l t} (h : t ∈ l) : ∃ x y, l = x ++ t :: y ∧ turn l t = t :: (y ++ x) ∧ t ∉ x := by
 have hlt := List.idxOf_lt_length_of_mem h
 refine ⟨l.take (l.idxOf t), l.drop (l.idxOf t + 1), ?_, ?_, ?_⟩
 ·have : l.drop (l.idxOf t) = t :: l.drop (l.idxOf t + 1) := by
   rw [List.drop_eq_getElem_cons hlt, List.getElem_idxOf hlt]
  rw [← this, List.take_append_drop]
 ·unfold turn
  rw [List.drop_eq_getElem_cons hlt, List.getElem_idxOf hlt]; rfl
 ·intro hm
  have := List.mem_take_iff_getElem.1 hm
  obtain ⟨i, hi, e⟩ := this
  have hlt' : i < l.idxOf t := by omega
  have := List.not_of_lt_findIdx (p := fun a => a == t) (xs := l) (i := i) (by simpa [List.idxOf] using hlt')
  simp [e] at this
theorem turn_perm (l t) : (turn l t).Perm l := by
 unfold turn
 have := List.perm_append_comm (l₁ := l.drop (l.idxOf t)) (l₂ := l.take (l.idxOf t))
 rwa [List.take_append_drop] at this
theorem turn_ring {l} (h : Ring l) (t) : Ring (turn l t) := by
 unfold turn
 have : Ring (l.take (l.idxOf t) ++ l.drop (l.idxOf t)) := by rwa [List.take_append_drop]
 exact this.rot
theorem vs_perm {l m : List Tok} (h : l.Perm m) : (vs l).Perm (vs m) := h.filterMap _
def least (n : Nat) (l : List Tok) : Nat := (vs l).foldl min n
theorem foldl_min_le (l : List Nat) : ∀ n, l.foldl min n ≤ n ∧ (∀ v ∈ l, l.foldl min n ≤ v) ∧ (l.foldl min n = n ∨ l.foldl min n ∈ l) := by
 induction l with
 | nil => intro n; simp
 | cons a l ih =>
  intro n
  obtain ⟨h1, h2, h3⟩ := ih (min n a)
  simp only [List.foldl_cons, List.mem_cons]
  refine ⟨by omega, ?_, ?_⟩
  ·rintro v (rfl | hv)
   ·omega
   ·exact h2 v hv
  ·rcases h3 with h3 | h3
   ·rw [h3]; omega
   ·exact .inr (.inr h3)
theorem least_mem {n l} (hn : vs l ≠ []) (h : ∀ v ∈ vs l, v < n) : least n l ∈ vs l ∧ ∀ v ∈ vs l, least n l ≤ v := by
 obtain ⟨h1, h2, h3⟩ := foldl_min_le (vs l) n
 refine ⟨?_, h2⟩
 rcases h3 with h3 | h3
 ·obtain ⟨v, hv⟩ := List.exists_mem_of_ne_nil _ hn
  have := h2 v hv; have := h v hv
  unfold least at *; omega
 ·exact h3
structure Good (n : Nat) (l : List Tok) : Prop where
 ring : Ring l
 nodup : (vs l).Nodup
 lt : ∀ v ∈ vs l, v < n
 head : ∃ y, l = V (least n l) :: y
theorem Ring.vs_ne {l} (h : Ring l) : vs l ≠ [] := by
 obtain ⟨r, h⟩ := h
 exact List.ne_nil_of_mem (h.own rfl)
theorem Good.least_le {n l} (h : Good n l) : ∀ v ∈ vs l, least n l ≤ v := (least_mem (Ring.vs_ne h.ring) h.lt).2
theorem Good.least_mem {n l} (h : Good n l) : least n l ∈ vs l := (ArForest.least_mem (Ring.vs_ne h.ring) h.lt).1
def plain (n : Nat) (l : List Tok) : List Tok := turn l (V (least n l))
theorem least_perm {n l m} (h : (vs l).Perm (vs m)) (hl : ∀ v ∈ vs l, v < n) (hn : vs l ≠ []) : least n l = least n m := by
 have hm : ∀ v ∈ vs m, v < n := fun v hv => hl v (h.mem_iff.2 hv)
 have hn' : vs m ≠ [] := fun e => hn (by rw [e] at h; exact h.eq_nil)
 obtain ⟨a1, a2⟩ := ArForest.least_mem hn hl
 obtain ⟨b1, b2⟩ := ArForest.least_mem hn' hm
 have := a2 _ (h.mem_iff.2 b1)
 have := b2 _ (h.mem_iff.1 a1)
 omega
theorem plain_good {n l} (h : Ring l) (hd : (vs l).Nodup) (hl : ∀ v ∈ vs l, v < n) : Good n (plain n l) := by
 have hp : (vs (plain n l)).Perm (vs l) := vs_perm (turn_perm _ _)
 have hlt : ∀ v ∈ vs (plain n l), v < n := fun v hv => hl v (hp.mem_iff.1 hv)
 have hm := (ArForest.least_mem (Ring.vs_ne h) hl).1
 obtain ⟨x, y, _, e, _⟩ := turn_eq (mem_vs.1 hm)
 refine ⟨turn_ring h _, hp.nodup_iff.2 hd, hlt, y ++ x, ?_⟩
 rw [← least_perm hp.symm hl (Ring.vs_ne h)]
 exact e
def joined (u v : Nat) (a b : List Tok) : List Tok :=
 V u :: A u v :: ((turn b (V v)) ++ A v u :: (turn a (V u)).tail)
theorem joined_ring {a b u v} (ha : Ring a) (hb : Ring b) (hu : V u ∈ a) (hv : V v ∈ b) : Ring (joined u v a b) := by
 obtain ⟨x, y, _, ea, _⟩ := turn_eq hu
 obtain ⟨x', y', _, eb, _⟩ := turn_eq hv
 have ra := turn_ring ha (V u)
 have rb := turn_ring hb (V v)
 rw [ea] at ra
 obtain ⟨r, ra⟩ := ra
 obtain rfl := ra.head_V
 obtain ⟨q, rb'⟩ := rb
 rw [eb] at rb'
 obtain rfl := rb'.head_V
 have := ra.insert (x := [V r]) (y := y ++ x) rfl rb'
 refine ⟨r, ?_⟩
 unfold joined
 rw [ea, eb]
 simpa [Tok.stand] using this
theorem joined_vs {a b u v} (hu : V u ∈ a) : (vs (joined u v a b)).Perm (vs a ++ vs b) := by
 obtain ⟨x, y, _, ea, _⟩ := turn_eq hu
 have pa := vs_perm (turn_perm a (V u))
 have pb := vs_perm (turn_perm b (V v))
 unfold joined
 rw [ea] at pa ⊢
 simp only [vs_V, vs_A, vs_append, List.tail_cons] at pa ⊢
 have h1 : (u :: (vs (turn b (V v)) ++ (vs y ++ vs x))).Perm (vs (turn b (V v)) ++ (u :: (vs y ++ vs x))) := List.perm_middle.symm
 exact h1.trans ((pb.append pa).trans List.perm_append_comm)
structure Wf (n : Nat) (f : List (List Tok)) : Prop where
 good : ∀ r ∈ f, Good n r
 sorted : f.Pairwise fun a b => least n a < least n b
 all : (f.flatMap vs).Perm (List.range n)
def place (f : List (List Tok)) (v : Nat) : Nat := f.findIdx fun r => r.contains (V v)
def put (n : Nat) (r : List Tok) : List (List Tok) → List (List Tok)
 | [] => [r]
 | a :: f => if least n a < least n r then a :: put n r f else r :: a :: f
theorem put_perm (n r f) : (put n r f).Perm (r :: f) := by
 induction f with
 | nil => exact .refl _
 | cons a f ih =>
  unfold put
  split
  ·exact (ih.cons a).trans (.swap ..)
  ·exact .refl _
theorem put_sorted {n r f} (h : f.Pairwise fun a b => least n a < least n b) (hr : ∀ a ∈ f, least n a ≠ least n r) : (put n r f).Pairwise fun a b => least n a < least n b := by
 induction f with
 | nil => simp [put]
 | cons a f ih =>
  obtain ⟨h1, h2⟩ := List.pairwise_cons.1 h
  have ha := hr a (by simp)
  unfold put
  split
  ·rename_i hlt
   refine List.pairwise_cons.2 ⟨fun b hb => ?_, ih h2 (fun b hb => hr b (by simp [hb]))⟩
   rcases List.mem_cons.1 ((put_perm n r f).mem_iff.1 hb) with rfl | hb
   ·exact hlt
   ·exact h1 b hb
  ·refine List.pairwise_cons.2 ⟨fun b hb => ?_, h⟩
   rcases List.mem_cons.1 hb with rfl | hb
   ·omega
   ·have := h1 b hb; omega
def without (f : List (List Tok)) (i j : Nat) : List (List Tok) := (f.eraseIdx (max i j)).eraseIdx (min i j)
def link (n : Nat) (f : List (List Tok)) (u v : Nat) : List (List Tok) :=
 let i := place f u
 let j := place f v
 if i = j then f else put n (plain n (joined u v (f.getD i []) (f.getD j []))) (without f i j)
theorem place_lt {n f v} (h : Wf n f) (hv : v < n) : place f v < f.length ∧ V v ∈ f.getD (place f v) [] := by
 have hm : v ∈ f.flatMap vs := h.all.mem_iff.2 (by simpa using hv)
 obtain ⟨r, hr, hvr⟩ := List.mem_flatMap.1 hm
 have hlt : place f v < f.length := List.findIdx_lt_length_of_exists ⟨r, hr, by simpa using mem_vs.1 hvr⟩
 refine ⟨hlt, ?_⟩
 have := List.findIdx_getElem (w := hlt)
 simp only [List.contains_iff_mem] at this
 rwa [List.getD_eq_getElem?_getD, List.getElem?_eq_getElem hlt, Option.getD_some]
theorem erase_perm {α} (f : List α) (i : Nat) (d : α) (h : i < f.length) : f.Perm (f.getD i d :: f.eraseIdx i) := by
 induction f generalizing i with
 | nil => simp at h
 | cons a f ih =>
  cases i with
  | zero => simp
  | succ i =>
   have := ih i (by simpa using h)
   simp only [List.getD_cons_succ, List.eraseIdx_cons_succ]
   exact (this.cons a).trans (.swap ..)
theorem without_perm (f : List (List Tok)) (i j : Nat) (hi : i < f.length) (hj : j < f.length) (hne : i ≠ j) : f.Perm (f.getD i [] :: f.getD j [] :: without f i j) := by
 have key : ∀ a b, a < b → b < f.length → f.Perm (f.getD a [] :: f.getD b [] :: without f a b) := by
  intro a b hab hb
  have h1 := erase_perm f b [] hb
  have hl : a < (f.eraseIdx b).length := by rw [List.length_eraseIdx]; split <;> omega
  have h2 := erase_perm (f.eraseIdx b) a [] hl
  have h3 : (f.eraseIdx b).getD a [] = f.getD a [] := by
   rw [List.getD_eq_getElem?_getD, List.getElem?_eraseIdx, if_pos hab, List.getD_eq_getElem?_getD]
  rw [h3] at h2
  have h4 : without f a b = (f.eraseIdx b).eraseIdx a := by unfold without; rw [Nat.max_eq_right (by omega), Nat.min_eq_left (by omega)]
  rw [h4]
  exact h1.trans ((h2.cons _).trans (.swap ..))
 rcases Nat.lt_or_gt_of_ne hne with h | h
 ·exact key i j h hj
 ·have := key j i h hi
  have e : without f j i = without f i j := by unfold without; rw [Nat.max_comm, Nat.min_comm]
  rw [e] at this
  exact this.trans (.swap ..)
theorem Wf.uniq {n f} (h : Wf n f) {i j v} (hi : i < f.length) (hj : j < f.length) (vi : V v ∈ f.getD i []) (vj : V v ∈ f.getD j []) : i = j := by
 have hn : (f.flatMap vs).Nodup := h.all.nodup_iff.2 List.nodup_range
 refine Classical.byContradiction fun hne => ?_
 have hp := without_perm f i j hi hj hne
 have hp2 := (hp.flatMap_right vs).nodup_iff.1 hn
 simp only [List.flatMap_cons] at hp2
 have := (List.nodup_append.1 hp2).2.2 v (mem_vs.2 vi) v (List.mem_append_left _ (mem_vs.2 vj))
 exact this rfl
theorem put_mem {n r f a} : a ∈ put n r f ↔ a = r ∨ a ∈ f := by rw [(put_perm n r f).mem_iff, List.mem_cons]
theorem link_wf {n f u v} (h : Wf n f) (hu : u < n) (hv : v < n) : Wf n (link n f u v) := by
 obtain ⟨hi, hui⟩ := place_lt h hu
 obtain ⟨hj, hvj⟩ := place_lt h hv
 unfold link
 simp only []
 split
 ·exact h
 ·rename_i hne
  have hp := without_perm f _ _ hi hj hne
  generalize ea : f.getD (place f u) [] = a at hui hp ⊢
  generalize eb : f.getD (place f v) [] = b at hvj hp ⊢
  generalize ef : without f (place f u) (place f v) = g at hp ⊢
  have ga : Good n a := h.good _ (hp.mem_iff.2 (by simp))
  have gb : Good n b := h.good _ (hp.mem_iff.2 (by simp))
  have gg : ∀ r ∈ g, Good n r := fun r hr => h.good _ (hp.mem_iff.2 (by simp [hr]))
  have hall : (vs a ++ (vs b ++ g.flatMap vs)).Perm (List.range n) := by
   have := (hp.flatMap_right vs).symm.trans h.all
   simpa [List.flatMap_cons] using this
  have hnd := hall.nodup_iff.2 List.nodup_range
  have hjv : (vs (joined u v a b)).Perm (vs a ++ vs b) := joined_vs hui
  have hjr := joined_ring ga.ring gb.ring hui hvj
  have hjn : (vs (joined u v a b)).Nodup := by
   refine hjv.nodup_iff.2 ?_
   rw [← List.append_assoc] at hnd
   exact (List.nodup_append.1 hnd).1
  have hjl : ∀ x ∈ vs (joined u v a b), x < n := by
   intro x hx
   rcases List.mem_append.1 (hjv.mem_iff.1 hx) with hx | hx
   ·exact ga.lt x hx
   ·exact gb.lt x hx
  have gp := plain_good hjr hjn hjl
  have hpv : (vs (plain n (joined u v a b))).Perm (vs a ++ vs b) := (vs_perm (turn_perm _ _)).trans hjv
  have hnew : (vs (plain n (joined u v a b)) ++ g.flatMap vs).Perm (List.range n) :=
   (hpv.append_right _).trans (by rw [List.append_assoc]; exact hall)
  refine ⟨?_, ?_, ?_⟩
  ·intro r hr
   rcases put_mem.1 hr with rfl | hr
   ·exact gp
   ·exact gg r hr
  ·refine put_sorted ?_ ?_
   ·rw [← ef]
    unfold without
    exact (h.sorted.sublist (List.eraseIdx_sublist ..)).sublist (List.eraseIdx_sublist ..)
   ·intro r hr e
    have h1 := gp.least_mem
    have h2 := (gg r hr).least_mem
    rw [e] at h2
    have hnn := hnew.nodup_iff.2 List.nodup_range
    exact (List.nodup_append.1 hnn).2.2 _ h1 _ (List.mem_flatMap.2 ⟨r, hr, h2⟩) rfl
  ·have := (put_perm n (plain n (joined u v a b)) g).flatMap_right vs
   refine this.trans ?_
   simpa [List.flatMap_cons] using hnew
def together (f : List (List Tok)) (x y : Nat) : Prop := ∃ r ∈ f, V x ∈ r ∧ V y ∈ r
theorem together_place {n f x y} (h : Wf n f) (hx : x < n) (hy : y < n) : together f x y ↔ place f x = place f y := by
 obtain ⟨ix, mx⟩ := place_lt h hx
 obtain ⟨iy, my⟩ := place_lt h hy
 constructor
 ·rintro ⟨r, hr, h1, h2⟩
  obtain ⟨k, hk, rfl⟩ := List.mem_iff_getElem.1 hr
  have e : f.getD k [] = f[k] := by rw [List.getD_eq_getElem?_getD, List.getElem?_eq_getElem hk, Option.getD_some]
  rw [← e] at h1 h2
  rw [← h.uniq hk ix h1 mx, ← h.uniq hk iy h2 my]
 ·intro e
  rw [e] at mx
  refine ⟨_, ?_, mx, my⟩
  rw [List.getD_eq_getElem?_getD, List.getElem?_eq_getElem iy, Option.getD_some]
  exact List.getElem_mem iy
theorem lab_snoc_iff (l : List E) (u v x y : Nat) : lab (l ++ [(u, v)]) x = lab (l ++ [(u, v)]) y ↔
    lab l x = lab l y ∨ ((lab l x = lab l u ∨ lab l x = lab l v) ∧ (lab l y = lab l u ∨ lab l y = lab l v)) := by
 rw [lab_snoc]
 unfold lab1
 simp only []
 split <;> split <;> omega
structure Tells (n : Nat) (l : List E) (f : List (List Tok)) : Prop where
 wf : Wf n f
 tells : ∀ x y, x < n → y < n → (place f x = place f y ↔ lab l x = lab l y)
 len : f.length + joins [] l = n
theorem joins_snoc (l0 l : List E) (e : E) : joins l0 (l ++ [e]) = joins l0 l + (if lab (l0 ++ l) e.1 = lab (l0 ++ l) e.2 then 0 else 1) := by
 induction l generalizing l0 with
 | nil => simp [joins]
 | cons a l ih =>
  simp only [List.cons_append, joins, ih, List.append_assoc, List.nil_append]
  omega
theorem Tells.link {n l f u v} (h : Tells n l f) (hu : u < n) (hv : v < n) : Tells n (l ++ [(u, v)]) (link n f u v) := by
 have hw := link_wf h.wf hu hv
 refine ⟨hw, ?_, ?_⟩
 ·intro x y hx hy
  rw [← together_place hw hx hy, lab_snoc_iff, ← h.tells x y hx hy, ← h.tells x u hx hu, ← h.tells x v hx hv, ← h.tells y u hy hu, ← h.tells y v hy hv]
  rw [← together_place h.wf hx hy, ← together_place h.wf hx hu, ← together_place h.wf hx hv, ← together_place h.wf hy hu, ← together_place h.wf hy hv]
  obtain ⟨hi, hui⟩ := place_lt h.wf hu
  obtain ⟨hj, hvj⟩ := place_lt h.wf hv
  unfold ArForest.link
  simp only []
  split
  ·rename_i e
   rw [← together_place h.wf hu hv] at e
   have tr : ∀ {a b c}, a < n → b < n → c < n → together f a b → together f b c → together f a c := by
    intro a b c ha hb hc h1 h2
    rw [together_place h.wf ha hc]
    rw [together_place h.wf ha hb] at h1
    rw [together_place h.wf hb hc] at h2
    exact h1.trans h2
   have sy : ∀ {a b}, together f a b → together f b a := fun ⟨r, hr, a, b⟩ => ⟨r, hr, b, a⟩
   constructor
   ·exact .inl
   ·rintro (h | ⟨h1 | h1, h2 | h2⟩)
    ·exact h
    ·exact tr hx hu hy h1 (sy h2)
    ·exact tr hx hu hy h1 (tr hu hv hy e (sy h2))
    ·exact tr hx hv hy h1 (tr hv hu hy (sy e) (sy h2))
    ·exact tr hx hv hy h1 (sy h2)
  ·rename_i hne
   have hp := without_perm f _ _ hi hj hne
   generalize ea : f.getD (place f u) [] = a at hui hp ⊢
   generalize eb : f.getD (place f v) [] = b at hvj hp ⊢
   generalize ef : without f (place f u) (place f v) = g at hp ⊢
   have hjv : ∀ z, V z ∈ plain n (joined u v a b) ↔ V z ∈ a ∨ V z ∈ b := by
    intro z
    rw [← mem_vs, ← mem_vs, ← mem_vs, ← List.mem_append]
    exact ((vs_perm (turn_perm _ _)).trans (joined_vs hui)).mem_iff
   have tf : ∀ s t, together f s t ↔ (V s ∈ a ∧ V t ∈ a) ∨ (V s ∈ b ∧ V t ∈ b) ∨ together g s t := by
    intro s t
    unfold together
    constructor
    ·rintro ⟨r, hr, h1, h2⟩
     rcases List.mem_cons.1 (hp.mem_iff.1 hr) with rfl | hr
     ·exact .inl ⟨h1, h2⟩
     ·rcases List.mem_cons.1 hr with rfl | hr
      ·exact .inr (.inl ⟨h1, h2⟩)
      ·exact .inr (.inr ⟨r, hr, h1, h2⟩)
    ·rintro (⟨h1, h2⟩ | ⟨h1, h2⟩ | ⟨r, hr, h1, h2⟩)
     ·exact ⟨a, hp.mem_iff.2 (by simp), h1, h2⟩
     ·exact ⟨b, hp.mem_iff.2 (by simp), h1, h2⟩
     ·exact ⟨r, hp.mem_iff.2 (by simp [hr]), h1, h2⟩
   have tn : ∀ s t, together (put n (plain n (joined u v a b)) g) s t ↔ ((V s ∈ a ∨ V s ∈ b) ∧ (V t ∈ a ∨ V t ∈ b)) ∨ together g s t := by
    intro s t
    unfold together
    constructor
    ·rintro ⟨r, hr, h1, h2⟩
     rcases put_mem.1 hr with rfl | hr
     ·exact .inl ⟨(hjv _).1 h1, (hjv _).1 h2⟩
     ·exact .inr ⟨r, hr, h1, h2⟩
    ·rintro (⟨h1, h2⟩ | ⟨r, hr, h1, h2⟩)
     ·exact ⟨_, put_mem.2 (.inl rfl), (hjv _).2 h1, (hjv _).2 h2⟩
     ·exact ⟨r, put_mem.2 (.inr hr), h1, h2⟩
   have iu : ∀ s, together f s u ↔ V s ∈ a := by
    intro s
    constructor
    ·rintro ⟨r, hr, h1, h2⟩
     obtain ⟨k, hk, e⟩ := List.mem_iff_getElem.1 hr
     have e' : f.getD k [] = r := by rw [List.getD_eq_getElem?_getD, List.getElem?_eq_getElem hk, Option.getD_some, e]
     have := h.wf.uniq hk hi (e' ▸ h2) (ea ▸ hui)
     subst this
     rw [← ea, e']; exact h1
    ·intro h1; exact ⟨a, hp.mem_iff.2 (by simp), h1, hui⟩
   have iv : ∀ s, together f s v ↔ V s ∈ b := by
    intro s
    constructor
    ·rintro ⟨r, hr, h1, h2⟩
     obtain ⟨k, hk, e⟩ := List.mem_iff_getElem.1 hr
     have e' : f.getD k [] = r := by rw [List.getD_eq_getElem?_getD, List.getElem?_eq_getElem hk, Option.getD_some, e]
     have := h.wf.uniq hk hj (e' ▸ h2) (eb ▸ hvj)
     subst this
     rw [← eb, e']; exact h1
    ·intro h1; exact ⟨b, hp.mem_iff.2 (by simp), h1, hvj⟩
   rw [tn, tf, iu, iv, iu, iv]
   constructor
   ·rintro (h | h)
    ·exact .inr h
    ·exact .inl (.inr (.inr h))
   ·rintro ((h | h | h) | h)
    ·exact .inl ⟨.inl h.1, .inl h.2⟩
    ·exact .inl ⟨.inr h.1, .inr h.2⟩
    ·exact .inr h
    ·exact .inl h
 ·rw [joins_snoc]
  have hl := h.len
  obtain ⟨hi, _⟩ := place_lt h.wf hu
  obtain ⟨hj, _⟩ := place_lt h.wf hv
  have ht := h.tells u v hu hv
  unfold ArForest.link
  simp only [List.nil_append]
  split
  ·rename_i e
   rw [if_pos (ht.1 e)]; omega
  ·rename_i hne
   rw [if_neg (fun e => hne (ht.2 e))]
   have h1 := (put_perm n (plain n (joined u v (f.getD (place f u) []) (f.getD (place f v) []))) (without f (place f u) (place f v))).length_eq
   have h2 := (without_perm f _ _ hi hj hne).length_eq
   simp only [List.length_cons] at h1 h2
   omega
def alone (n : Nat) : List (List Tok) := (List.range n).map fun v => [V v]
theorem alone_tells (n : Nat) : Tells n [] (alone n) := by
 have hp : ∀ v, v < n → place (alone n) v = v := by
  intro v hv
  unfold place alone
  rw [List.findIdx_map]
  rw [List.findIdx_eq (by simpa using hv)]
  simp
  omega
 refine ⟨⟨?_, ?_, ?_⟩, ?_, ?_⟩
 ·intro r hr
  obtain ⟨v, hv, rfl⟩ := List.mem_map.1 hr
  have hv : v < n := by simpa using hv
  exact ⟨⟨v, .tok _ _ (.nil v)⟩, by simp, by simpa using hv, [], by simp [least]; omega⟩
 ·unfold alone
  rw [List.pairwise_map]
  refine List.Pairwise.imp_of_mem ?_ (List.pairwise_lt_range (n := n))
  intro a b ha hb hab
  have ha : a < n := by simpa using ha
  have hb : b < n := by simpa using hb
  simp [least]; omega
 ·unfold alone
  rw [List.flatMap_map]
  have : ((List.range n).flatMap fun a => vs [V a]) = List.range n := by simp [List.flatMap_singleton']
  rw [this]
 ·intro x y hx hy
  rw [hp x hx, hp y hy]; simp [lab]
 ·simp [alone, joins]
def of (n : Nat) (l : List E) : List (List Tok) := l.foldl (fun f e => link n f e.1 e.2) (alone n)
theorem of_snoc (n l e) : of n (l ++ [e]) = link n (of n l) e.1 e.2 := by simp [of, List.foldl_append]
theorem of_tells (n : Nat) (l : List E) (h : ∀ e ∈ l, e.1 < n ∧ e.2 < n) : Tells n l (of n l) := by
 induction l using snoc_induction with
 | h0 => exact alone_tells n
 | h1 l e ih =>
  rw [of_snoc]
  obtain ⟨h1, h2⟩ := h e (by simp)
  exact (ih fun x hx => h x (by simp [hx])).link h1 h2
end ArForest
namespace ArWalk
open ArTour ArForest
open ArTour.Tok
def wstep (st : List Nat × List Nat × List Nat) (t : Tok) : Option (List Nat × List Nat × List Nat) :=
 match t with
 | V u => if st.1.head? = some u then some (st.1, st.2.1, u :: st.2.2) else none
 | A u v => if st.1.head? ≠ some u then none else if st.1.tail.head? = some v then some (st.1.tail, st.2) else if v ∈ st.2.1 then none else some (v :: st.1, v :: st.2.1, st.2.2)
theorem Ex.arc_ne {b r s} (h : Ex b r s) (hn : (vs s).Nodup) (hr : b = false → r ∉ vs s) : ∀ {u v}, A u v ∈ s → u ≠ v := by
 induction h with
 | nil => intro u v h; cases h
 | tok r s hs ih =>
  intro u v h
  simp only [vs_V, List.nodup_cons] at hn
  simp only [List.mem_cons, reduceCtorEq, false_or] at h
  exact ih hn.2 (fun _ => hn.1) h
 | go b r c s1 s2 h1 h2 ih1 ih2 =>
  intro u v h
  simp only [vs_A, vs_append] at hn hr
  obtain ⟨n1, n2, n12⟩ := List.nodup_append.1 hn
  have hc := h1.own rfl
  have rc : r ≠ c := by
   rintro rfl
   cases b with
   | true => exact n12 r hc r (h2.own rfl) rfl
   | false => exact hr rfl (by simp [hc])
  simp only [List.mem_cons, List.mem_append, Tok.A.injEq] at h
  rcases h with ⟨rfl, rfl⟩ | h | ⟨rfl, rfl⟩ | h
  ·exact rc
  ·exact ih1 n1 (by simp) h
  ·exact rc.symm
  ·exact ih2 n2 (fun hb hm => hr hb (by simp [hm])) h
theorem walk_ex {b r s} (h : Ex b r s) : ∀ rest came met, (vs s).Nodup → (b = false → r ∉ vs s) → (∀ p ∈ rest.head?, p ∉ vs s) → r ∈ came → (∀ v ∈ vs s, v ≠ r → v ∉ came) →
    ∃ came', s.foldlM wstep (r :: rest, came, met) = some (r :: rest, came', (vs s).reverse ++ met) ∧ came'.Perm ((vs s).filter (· ≠ r) ++ came) := by
 induction h with
 | nil => intro rest came met _ _ _ _ _; exact ⟨came, by simp, by simp⟩
 | tok r s hs ih =>
  intro rest came met hn hr hp hc hv
  simp only [vs_V, List.nodup_cons] at hn
  obtain ⟨c', e, p⟩ := ih rest came (r :: met) hn.2 (fun _ => hn.1) (fun q hq hm => hp q hq (by simp [hm])) hc (fun v hm => hv v (by simp [hm]))
  refine ⟨c', ?_, ?_⟩
  ·simp [List.foldlM_cons, wstep, e]
  ·simpa using p
 | go b r c s1 s2 h1 h2 ih1 ih2 =>
  intro rest came met hn hr hp hcm hv
  simp only [vs_A, vs_append] at hn hr hp hv
  obtain ⟨n1, n2, n12⟩ := List.nodup_append.1 hn
  have hc := h1.own rfl
  have rc : r ≠ c := by
   rintro rfl
   cases b with
   | true => exact n12 r hc r (h2.own rfl) rfl
   | false => exact hr rfl (by simp [hc])
  have r1 : r ∉ vs s1 := by
   intro hm
   cases b with
   | true => exact n12 r hm r (h2.own rfl) rfl
   | false => exact hr rfl (by simp [hm])
  have c2 : c ∉ vs s2 := fun hm => n12 c hc c hm rfl
  have cc : c ∉ came := hv c (by simp [hc]) rc.symm
  obtain ⟨a', ea, pa⟩ := ih1 (r :: rest) (c :: came) met n1 (by simp) (by simpa using r1) (by simp) (by
   intro v hm hne
   have hvr : v ≠ r := by rintro rfl; exact r1 hm
   simp only [List.mem_cons, not_or]
   exact ⟨hne, hv v (by simp [hm]) hvr⟩)
  have hma : ∀ v, v ∈ a' ↔ (v ∈ vs s1) ∨ v ∈ came := by
   intro v
   rw [pa.mem_iff]
   simp only [List.mem_append, List.mem_filter, List.mem_cons, decide_not, Bool.not_eq_true', decide_eq_false_iff_not]
   constructor
   ·rintro (h | rfl | h)
    ·exact .inl h.1
    ·exact .inl hc
    ·exact .inr h
   ·rintro (h | h)
    ·by_cases e : v = c
     ·exact .inr (.inl e)
     ·exact .inl ⟨h, e⟩
    ·exact .inr (.inr h)
  obtain ⟨b', eb, pb⟩ := ih2 rest a' ((vs s1).reverse ++ met) n2 (fun hb hm => hr hb (by simp [hm])) (fun q hq hm => hp q hq (by simp [hm])) ((hma r).2 (.inr hcm)) (by
   intro v hm hne
   rw [hma]
   rintro (h | h)
   ·exact n12 v h v hm rfl
   ·exact hv v (by simp [hm]) hne h)
  refine ⟨b', ?_, ?_⟩
  ·have hpar : rest.head? ≠ some c := by
    intro e
    exact hp c (by simp [e]) (by simp [hc])
   simp only [List.foldlM_cons, List.foldlM_append]
   have e1 : wstep (r :: rest, came, met) (A r c) = some (c :: r :: rest, c :: came, met) := by simp [wstep, hpar, cc]
   rw [e1]
   simp only [Option.bind_eq_bind, Option.bind_some, ea]
   have e2 : wstep (c :: r :: rest, a', (vs s1).reverse ++ met) (A c r) = some (r :: rest, a', (vs s1).reverse ++ met) := by simp [wstep]
   rw [e2]
   simp only [Option.bind_some, eb]
   simp
  ·refine pb.trans ?_
   rw [vs_A, vs_append, vs_A, List.filter_append, List.append_assoc]
   have f1 : (vs s1).filter (· ≠ r) = vs s1 := by
    rw [List.filter_eq_self]
    intro v hm
    have : v ≠ r := by rintro rfl; exact r1 hm
    simpa using this
   rw [f1]
   have pc : a'.Perm (vs s1 ++ came) := by
    refine pa.trans ?_
    have hsplit : ((vs s1).filter (· ≠ c) ++ [c]).Perm (vs s1) := by
     have h1 := List.perm_append_comm (l₁ := (vs s1).filter (· ≠ c)) (l₂ := [c])
     have h2 := List.perm_cons_erase hc
     have h3 : (vs s1).erase c = (vs s1).filter (· ≠ c) := by rw [n1.erase_eq_filter]; congr 1; funext v; simp [bne]; rfl
     rw [h3] at h2
     exact h1.trans h2.symm
    have := hsplit.append_right came
    simpa using this
   have := pc.append_left ((vs s2).filter (· ≠ r))
   refine this.trans ?_
   rw [← List.append_assoc, ← List.append_assoc]
   exact List.perm_append_comm.append_right came
theorem walk_good {n l} (h : Good n l) : ∃ came met, l.foldlM wstep ([least n l], [least n l], []) = some ([least n l], came, met) ∧ came.Nodup ∧ met.Nodup ∧ (∀ v, v ∈ came ↔ v ∈ vs l) ∧ (∀ v, v ∈ met ↔ v ∈ vs l) := by
 obtain ⟨r, hr⟩ := h.ring
 obtain ⟨y, e⟩ := h.head
 have e' : r = least n l := by rw [e] at hr; exact hr.head_V
 subst e'
 obtain ⟨c', e1, p⟩ := walk_ex hr [] [least n l] [] h.nodup (by simp) (by simp) (by simp) (by simp)
 have hm := h.least_mem
 refine ⟨c', _, e1, ?_, ?_, ?_, ?_⟩
 ·refine p.nodup_iff.2 (List.nodup_append.2 ⟨h.nodup.filter _, by simp, ?_⟩)
  intro a ha b hb e
  simp at ha hb
  exact ha.2 (e.trans hb)
 ·simpa using (List.reverse_perm _).nodup_iff.2 h.nodup
 ·intro v
  rw [p.mem_iff]
  simp only [List.mem_append, List.mem_filter, List.mem_singleton, decide_not, Bool.not_eq_true', decide_eq_false_iff_not]
  constructor
  ·rintro (h | rfl)
   ·exact h.1
   ·exact hm
  ·intro h
   by_cases e : v = least n l
   ·exact .inr e
   ·exact .inl ⟨h, e⟩
 ·intro v; simp
end ArWalk
namespace ArLeaf
open ArTour ArForest
open ArTour.Tok
def rot (i : Nat) (l : List Tok) : List Tok := l.drop i ++ l.take i
theorem rot_ring {l} (h : Ring l) (i) : Ring (rot i l) := by
 unfold rot
 have : Ring (l.take i ++ l.drop i) := by rwa [List.take_append_drop]
 exact this.rot
theorem rot_perm (i l) : (rot i l).Perm l := by
 have := List.perm_append_comm (l₁ := l.drop i) (l₂ := l.take i)
 rwa [List.take_append_drop] at this
theorem rot_length (i l) : (rot i l).length = l.length := (rot_perm i l).length_eq
theorem Ring.len {l} (h : Ring l) : l.length + 2 = 3 * (vs l).length := by
 obtain ⟨r, h⟩ := h
 exact h.len
theorem ring_take {l i u v rest} (h : Ring l) (hn : (vs l).Nodup) (e : rot i l = A u v :: V v :: A v u :: rest) : Ring rest ∧ (vs rest).Nodup ∧ rest.length + 3 = l.length ∧ (v :: vs rest).Perm (vs l) := by
 have hr := rot_ring h i
 have hp := vs_perm (rot_perm i l)
 have hl := rot_length i l
 have hnr := hp.nodup_iff.2 hn
 rw [e] at hr hp hl hnr
 obtain ⟨r, hr⟩ := hr
 obtain rfl := hr.head_A
 refine ⟨⟨r, hr.unleaf hnr rfl⟩, ?_, by simpa using hl, by simpa using hp⟩
 simp only [vs_A, vs_V, List.nodup_cons] at hnr
 exact hnr.2
theorem ring_leaf {l} (h : Ring l) (hl : l.length ≠ 1) : ∃ i u v rest, i < l.length ∧ rot i l = A u v :: V v :: A v u :: rest ∧ (∃ t, rest.getLast? = some t ∧ t.stand = u) := by
 obtain ⟨r, h⟩ := h
 by_cases ha : ∃ u v, A u v ∈ l
 ·obtain ⟨x, y, c, e⟩ := h.leaf ha
  refine ⟨x.length, pos r x, c, y ++ x, by rw [e]; simp, ?_, ?_⟩
  ·unfold rot; rw [e]; simp
  ·rcases List.eq_nil_or_concat x with rfl | ⟨x', t, rfl⟩
   ·simp only [pos_nil, List.append_nil, List.nil_append] at e ⊢
    rcases List.eq_nil_or_concat y with rfl | ⟨y', t, rfl⟩
    ·have := h.own rfl
     have hpe := h.pos_end
     rw [e] at this hpe
     simp [Tok.stand] at this hpe
     exfalso
     subst this
     have hh : Ex true r l := h
     rw [e] at hh
     have := hh.len
     simp at this
    ·refine ⟨t, by simp, ?_⟩
     have hpe := h.pos_end
     rw [e] at hpe
     simpa [pos_append, Tok.stand, List.concat_eq_append] using hpe
   ·refine ⟨t, by simp, ?_⟩
    simp [pos_append]
 ·exfalso
  cases h with
  | go => exact ha ⟨_, _, List.mem_cons_self⟩
  | tok r s hs =>
   cases hs with
   | nil => simp at hl
   | go => exact ha ⟨_, _, List.mem_cons_of_mem _ List.mem_cons_self⟩
end ArLeaf
namespace Go.Ar.Mm
open ArTour ArForest ArWalk
open ArTour.Tok
def tk (n : Nat) : Tok → Int
 | V v => v
 | A u v => ((n + u * n + v : Nat) : Int)
def okT (n : Nat) : Tok → Prop
 | V v => v < n
 | A u v => u < n ∧ v < n ∧ u ≠ v
theorem arc_lt {n u v : Nat} (hn : n ≤ 64) (hu : u < n) (hv : v < n) : n ≤ n + u * n + v ∧ n + u * n + v < n + n * n ∧ n * n ≤ 4096 := by
 have h1 : u * n + n ≤ n * n := by
  have : (u + 1) * n ≤ n * n := Nat.mul_le_mul_right _ hu
  rw [Nat.add_mul] at this; omega
 have h2 : n * n ≤ 64 * 64 := Nat.mul_le_mul hn hn
 omega
theorem tk_inj {n : Nat} {s t : Tok} (hs : okT n s) (ht : okT n t) (h : tk n s = tk n t) : s = t := by
 have key : ∀ u v u' v', u < n → v < n → u' < n → v' < n → n + u * n + v = n + u' * n + v' → u = u' ∧ v = v' := by
  intro u v u' v' hu hv hu' hv' e
  have e2 : u * n + v = u' * n + v' := by omega
  have d1 : (u * n + v) / n = u := by rw [Nat.mul_comm, Nat.mul_add_div (by omega), Nat.div_eq_of_lt hv]; omega
  have d2 : (u' * n + v') / n = u' := by rw [Nat.mul_comm, Nat.mul_add_div (by omega), Nat.div_eq_of_lt hv']; omega
  rw [e2, d2] at d1
  subst d1
  exact ⟨rfl, by omega⟩
 cases s with
 | V v =>
  cases t with
  | V w => simp only [tk] at h; rw [show v = w by omega]
  | A u w => simp only [tk, okT] at *; exfalso; omega
 | A u v =>
  cases t with
  | V w => simp only [tk, okT] at *; exfalso; omega
  | A u' v' =>
   simp only [tk, okT] at *
   obtain ⟨rfl, rfl⟩ := key u v u' v' hs.1 hs.2.1 ht.1 ht.2.1 (by omega)
   rfl
theorem tk_rng {n : Nat} {t : Tok} (hn : n ≤ 64) (ht : okT n t) : 0 ≤ tk n t ∧ tk n t ≤ 10000 := by
 cases t with
 | V v => simp only [tk, okT] at *; omega
 | A u v =>
  simp only [tk, okT] at *
  have := arc_lt hn ht.1 ht.2.1
  omega
theorem tk_lt {n : Nat} {t : Tok} (ht : okT n t) : tk n t < (n : Int) ↔ ∃ v, t = V v := by
 cases t with
 | V v => simp only [tk, okT] at *; exact ⟨fun _ => ⟨_, rfl⟩, fun _ => by omega⟩
 | A u v => simp only [tk, okT] at *; exact ⟨fun h => by omega, fun ⟨_, h⟩ => by cases h⟩
theorem good_ok {n : Nat} {l : List Tok} (h : Ring l) (hd : (vs l).Nodup) (hl : ∀ v ∈ vs l, v < n) : ∀ t ∈ l, okT n t := by
 obtain ⟨r, hr⟩ := h
 intro t ht
 cases t with
 | V v => exact hl v (mem_vs.2 ht)
 | A u v =>
  have h1 := hr.arcs ht
  have h2 := ArWalk.Ex.arc_ne hr hd (by simp) ht
  have hr' := hl r (hr.own rfl)
  refine ⟨?_, ?_, h2⟩
  ·rcases h1.1 with rfl | h
   ·exact hr'
   ·exact hl _ h
  ·rcases h1.2 with rfl | h
   ·exact hr'
   ·exact hl _ h
def er (n : Nat) (l : List Tok) : List Int := l.map (tk n)
def ef (n : Nat) (f : List (List Tok)) : List (List Int) := f.map (er n)
theorem map_inj_nodup {α β : Type} {f : α → β} {l : List α} (h : l.Nodup) (hi : ∀ x ∈ l, ∀ y ∈ l, f x = f y → x = y) : (l.map f).Nodup := by
 induction l with
 | nil => simp
 | cons a l ih =>
  rw [List.nodup_cons] at h
  rw [List.map_cons, List.nodup_cons]
  refine ⟨?_, ih h.2 fun x hx y hy => hi x (by simp [hx]) y (by simp [hy])⟩
  intro hm
  obtain ⟨b, hb, e⟩ := List.mem_map.1 hm
  have := hi b (by simp [hb]) a (by simp) e
  subst this; exact h.1 hb
theorem lt_len {n : Nat} {l : List Nat} (hd : l.Nodup) (hl : ∀ v ∈ l, v < n) : l.length ≤ n := by
 induction n generalizing l with
 | zero =>
  cases l with
  | nil => simp
  | cons a l => have := hl a (by simp); omega
 | succ n ih =>
  have h1 := ih (l := l.erase n) (hd.erase n) fun v hv => by
   have h2 := (hd.mem_erase_iff).1 hv
   have := hl v h2.2
   have := h2.1
   omega
  rw [List.length_erase] at h1
  split at h1 <;> omega
theorem vs_len {n : Nat} {l : List Tok} (hd : (vs l).Nodup) (hl : ∀ v ∈ vs l, v < n) : (vs l).length ≤ n := by
 exact lt_len hd hl
theorem rg_er {n : Nat} {l : List Tok} (hn : n ≤ 64) (h : Ring l) (hd : (vs l).Nodup) (hl : ∀ v ∈ vs l, v < n) : Rg (er n l) := by
 have hok := good_ok h hd hl
 refine ⟨?_, ?_, ?_⟩
 ·have := ArLeaf.Ring.len h
  have := vs_len hd hl
  simp [er]; omega
 ·intro x hx
  obtain ⟨t, ht, rfl⟩ := List.mem_map.1 hx
  exact tk_rng hn (hok t ht)
 ·obtain ⟨r, hr⟩ := h
  exact map_inj_nodup (Ring.nodup hr hd (by simp)) fun x hx y hy e => tk_inj (hok x hx) (hok y hy) e
theorem good_rg {n : Nat} {l : List Tok} (hn : n ≤ 64) (h : ArForest.Good n l) : Rg (er n l) := rg_er hn h.ring h.nodup h.lt
theorem er_mem {n : Nat} {l : List Tok} (hok : ∀ t ∈ l, okT n t) {t : Tok} (ht : okT n t) : tk n t ∈ er n l ↔ t ∈ l := by
 constructor
 ·intro h
  obtain ⟨s, hs, e⟩ := List.mem_map.1 h
  rw [← tk_inj (hok s hs) ht e]; exact hs
 ·exact fun h => List.mem_map.2 ⟨t, h, rfl⟩
theorem er_idx {n : Nat} {l : List Tok} (hok : ∀ t ∈ l, okT n t) {t : Tok} (ht : okT n t) : (er n l).idxOf (tk n t) = l.idxOf t := by
 induction l with
 | nil => rfl
 | cons a l ih =>
  have ih := ih fun s hs => hok s (by simp [hs])
  by_cases e : a = t
  ·subst e; simp [er]
  ·have : tk n a ≠ tk n t := fun h => e (tk_inj (hok a (by simp)) ht h)
   show (tk n a :: er n l).idxOf _ = _
   rw [idx_ne this, idx_ne e, ih]
theorem er_trn {n : Nat} {l : List Tok} (hok : ∀ t ∈ l, okT n t) {t : Tok} (ht : okT n t) : trn (er n l) (tk n t) = er n (turn l t) := by
 unfold trn turn
 rw [er_idx hok ht]
 simp [er, List.map_drop, List.map_take]
theorem r18_in {n v : Nat} (h1 : 1 ≤ n) (hn : n ≤ 64) (hv : v < n) : p_r18_in KK (n : Int) (v : Int) = some true := by
 unfold p_r18_in
 rw [show decide ((n : Int) ≥ 1) = true by simp; omega, show decide ((n : Int) ≤ 64) = true by simp; omega, show decide ((v : Int) ≥ 0) = true by simp]
 simp [hv]
theorem tour_sized {n : Nat} (h1 : 1 ≤ n) (hn : n ≤ 64) : p_tour_sized KK (n : Int) = some true := by
 unfold p_tour_sized
 rw [show decide ((n : Int) ≥ 1) = true by simp; omega, cond_true]
 simp; omega
theorem tour_in {n v : Nat} (h1 : 1 ≤ n) (hn : n ≤ 64) (hv : v < n) : p_tour_in KK (n : Int) (v : Int) = some true := by
 unfold p_tour_in
 rw [tour_sized h1 hn]
 simp [hv]
theorem r18_Arc {n u v : Nat} (h1 : 1 ≤ n) (hn : n ≤ 64) (hu : u < n) (hv : v < n) (hne : u ≠ v) : p_r18_Arc KK (n : Int) (u : Int) (v : Int) = some (tk n (A u v)) := by
 have hb := arc_lt hn hu hv
 unfold p_r18_Arc
 rw [r18_in h1 hn hu, r18_in h1 hn hv]
 simp only [Option.bind_some, Bool.not_true, cond_false]
 rw [show ((u : Int) == (v : Int)) = false by simp; omega, cond_false]
 have e1 : (u : Int) * (n : Int) = ((u * n : Nat) : Int) := by push_cast; rfl
 rw [e1, w64N (x := ((u * n : Nat) : Int)) (by omega) (by omega), w64N (x := (n : Int) + ((u * n : Nat) : Int)) (by omega) (by omega), w64N (by omega) (by omega)]
 simp only [tk]; congr 1
theorem tour_Arc {n u v : Nat} (h1 : 1 ≤ n) (hn : n ≤ 64) (hu : u < n) (hv : v < n) (hne : u ≠ v) : p_tour_Arc KK (n : Int) (u : Int) (v : Int) = some (tk n (A u v)) := by
 have hb := arc_lt hn hu hv
 unfold p_tour_Arc
 rw [show ((u : Int) == (v : Int)) = false by simp; omega, cond_false, tour_in h1 hn hu, tour_in h1 hn hv]
 simp only [Option.bind_some, Bool.not_true, cond_false]
 rw [w64N (x := (u : Int) + 1) (by omega) (by omega)]
 have e1 : (n : Int) * ((u : Int) + 1) = ((n + u * n : Nat) : Int) := by push_cast; rw [Int.mul_add, Int.mul_comm]; omega
 rw [e1, w64N (x := ((n + u * n : Nat) : Int)) (by omega) (by omega), w64N (by omega) (by omega)]
 simp only [tk]; congr 1
def tel : Tok → Int × Int × Bool × Bool
 | V v => (v, 0, false, true)
 | A u v => (u, v, true, true)
theorem divmod {n u v : Nat} (hn : 0 < n) (hv : v < n) : Int.tdiv ((u * n + v : Nat) : Int) (n : Int) = (u : Int) ∧ Int.tmod ((u * n + v : Nat) : Int) (n : Int) = (v : Int) := by
 have d1 : (u * n + v) / n = u := by rw [Nat.mul_comm, Nat.mul_add_div hn, Nat.div_eq_of_lt hv]; omega
 have d2 : (u * n + v) % n = v := by rw [Nat.mul_comm, Nat.mul_add_mod, Nat.mod_eq_of_lt hv]
 constructor
 ·rw [← Int.ofNat_tdiv, d1]
 ·rw [← Int.ofNat_tmod, d2]
theorem r18_Token {n : Nat} {t : Tok} (h1 : 1 ≤ n) (hn : n ≤ 64) (ht : okT n t) : p_r18_Token KK (n : Int) (tk n t) = some (tel t) := by
 unfold p_r18_Token
 cases t with
 | V v =>
  simp only [okT] at ht
  rw [show tk n (V v) = (v : Int) from rfl, r18_in h1 hn ht]; rfl
 | A u v =>
  simp only [okT] at ht
  have hb := arc_lt hn ht.1 ht.2.1
  rw [show tk n (A u v) = ((n + u * n + v : Nat) : Int) from rfl]
  have hin : p_r18_in KK (n : Int) ((n + u * n + v : Nat) : Int) = some false := by
   unfold p_r18_in
   rw [show decide ((n : Int) ≥ 1) = true by simp; omega, show decide ((n : Int) ≤ 64) = true by simp; omega, show decide (((n + u * n + v : Nat) : Int) ≥ 0) = true by simp; omega]
   simp; omega
  rw [hin]
  simp only [Option.bind_some, cond_false]
  rw [show decide ((n : Int) < 1) = false by simp; omega, show decide ((n : Int) > 64) = false by simp; omega, show decide (((n + u * n + v : Nat) : Int) < (n : Int)) = false by simp; omega]
  simp only [cond_false]
  have e1 : (n : Int) * (n : Int) = ((n * n : Nat) : Int) := by push_cast; rfl
  rw [e1, w64N (x := ((n * n : Nat) : Int)) (by omega) (by omega), w64N (x := (n : Int) + ((n * n : Nat) : Int)) (by omega) (by omega)]
  rw [show decide (((n + u * n + v : Nat) : Int) ≥ (n : Int) + ((n * n : Nat) : Int)) = false by simp only [decide_eq_false_iff_not]; omega, cond_false, nzN (by omega), nzN (by omega)]
  rw [w64N (x := ((n + u * n + v : Nat) : Int) - (n : Int)) (by omega) (by omega), show ((n + u * n + v : Nat) : Int) - (n : Int) = ((u * n + v : Nat) : Int) by omega, (divmod (by omega) ht.2.1).1, (divmod (by omega) ht.2.1).2, w64N (by omega) (by omega)]
  rw [show ((u : Int) == (v : Int)) = false by simp; omega, cond_false]; rfl
theorem tour_Token {n : Nat} {t : Tok} (h1 : 1 ≤ n) (hn : n ≤ 64) (ht : okT n t) : p_tour_Token KK (n : Int) (tk n t) = some (tel t) := by
 unfold p_tour_Token
 rw [tour_sized h1 hn]
 simp only [Option.bind_some, Bool.not_true, cond_false]
 have hrg := tk_rng hn ht
 have e1 : (n : Int) * ((n : Int) + 1) = ((n + n * n : Nat) : Int) := by push_cast; rw [Int.mul_add]; omega
 have hnn : n * n ≤ 64 * 64 := Nat.mul_le_mul hn hn
 rw [show decide (tk n t < 0) = false by simpa using hrg.1, cond_false, w64N (x := (n : Int) + 1) (by omega) (by omega), e1, w64N (x := ((n + n * n : Nat) : Int)) (by omega) (by omega)]
 cases t with
 | V v =>
  simp only [okT] at ht
  rw [show tk n (V v) = (v : Int) from rfl, show decide ((v : Int) ≥ ((n + n * n : Nat) : Int)) = false by simp only [decide_eq_false_iff_not]; omega, cond_false, show decide ((v : Int) < (n : Int)) = true by simp; omega]; rfl
 | A u v =>
  simp only [okT] at ht
  have hb := arc_lt hn ht.1 ht.2.1
  rw [show tk n (A u v) = ((n + u * n + v : Nat) : Int) from rfl, show decide (((n + u * n + v : Nat) : Int) ≥ ((n + n * n : Nat) : Int)) = false by simp only [decide_eq_false_iff_not]; omega, cond_false, show decide (((n + u * n + v : Nat) : Int) < (n : Int)) = false by simp only [decide_eq_false_iff_not]; omega, cond_false, nzN (by omega), nzN (by omega)]
  have e2 : n + u * n + v = (u + 1) * n + v := by rw [Nat.add_mul]; omega
  rw [e2, (divmod (by omega) ht.2.1).1, (divmod (by omega) ht.2.1).2, w64N (x := ((u + 1 : Nat) : Int)) (by omega) (by omega), w64N (by omega) (by omega)]
  rw [show ((((u + 1 : Nat) : Int) - 1) == (v : Int)) = false by simp; omega, cond_false]
  simp only [tel]; congr 2; omega
end Go.Ar.Mm
namespace Go.Ar.Mm
open ArTour ArForest ArWalk ArLeaf
open ArTour.Tok
theorem tmodN (a b : Nat) : Int.tmod (a : Int) (b : Int) = ((a % b : Nat) : Int) := (Int.ofNat_tmod a b).symm
def rotL {α : Type} (i : Nat) (l : List α) : List α := l.drop i ++ l.take i
theorem rotL_len {α : Type} (i : Nat) (l : List α) : (rotL i l).length = l.length := by simp [rotL]; omega
theorem rotL_get {α : Type} {i d : Nat} {l : List α} (hi : i < l.length) (hd : d < l.length) : (rotL i l)[d]? = l[(i + d) % l.length]? := by
 unfold rotL
 rcases Nat.lt_or_ge (i + d) l.length with h | h
 ·rw [List.getElem?_append_left (by simp; omega), List.getElem?_drop, Nat.mod_eq_of_lt h]
 ·rw [List.getElem?_append_right (by simp; omega), Nat.mod_eq_sub_mod h, Nat.mod_eq_of_lt (by omega), List.getElem?_take, if_pos (by simp; omega)]
  congr 1; simp; omega
theorem er_rot (n i : Nat) (l : List Tok) : er n (rot i l) = rotL i (er n l) := by simp [er, rot, rotL, List.map_drop, List.map_take]
theorem er_get {n i : Nat} {l : List Tok} {t : Tok} (h : l[i]? = some t) : (er n l)[i]? = some (tk n t) := by simp [er, h]
theorem r18_stands {n : Nat} {t : Tok} {u : Nat} (h1 : 1 ≤ n) (hn : n ≤ 64) (ht : okT n t) : p_r18_stands KK (n : Int) (tk n t) (u : Int) = some (decide (t.stand = u)) := by
 unfold p_r18_stands
 rw [r18_Token h1 hn ht]
 cases t with
 | V v =>
  simp only [tel, Option.bind_some, cond_true, Bool.not_false, Tok.stand]
  by_cases e : v = u
  ·subst e; simp
  ·rw [show ((v : Int) == (u : Int)) = false by simp; omega, cond_false, cond_false]; simp [e]
 | A a v =>
  simp only [tel, Option.bind_some, cond_true, Bool.not_true, cond_false, Tok.stand]
  by_cases e : v = u
  ·subst e; simp
  ·rw [show ((v : Int) == (u : Int)) = false by simp; omega]; simp [e]
structure Rn (n : Nat) (l : List Tok) : Prop where
 ring : Ring l
 nodup : (vs l).Nodup
 lt : ∀ v ∈ vs l, v < n
theorem Rn.ok {n : Nat} {l : List Tok} (h : Rn n l) : ∀ t ∈ l, okT n t := good_ok h.ring h.nodup h.lt
theorem Rn.len {n : Nat} {l : List Tok} (h : Rn n l) : l.length + 2 = 3 * (vs l).length ∧ (vs l).length ≤ n := ⟨ArLeaf.Ring.len h.ring, vs_len h.nodup h.lt⟩
theorem tree_L3 {l : List Int} {i : Nat} (hi : i < l.length) (hl : l.length < 900) (h3 : 3 ≤ l.length) : p_r18_tree_L3 KK l (i : Int) KK 3 [] = some ((rotL i l).drop 3) := by
 have := loopC (σ := List Int) (ρ := List Int) l.length (fun n j s => p_r18_tree_L3 KK l (i : Int) n (j : Int) s) (fun j s => some (s ++ (rotL i l).drop j)) (fun j s => s.length ≤ j)
  (fun n s _ => by
   simp only [p_r18_tree_L3, ltF (Nat.le_refl _), cond_false]
   rw [List.drop_eq_nil_of_le (by rw [rotL_len]; omega)]; simp)
  (fun n j s hs hj ih => by
   have hlt : (i + j) % l.length < l.length := Nat.mod_lt _ (by omega)
   have hg : l[(i + j) % l.length]? = some l[(i + j) % l.length] := List.getElem?_eq_getElem hlt
   have hg2 := rotL_get hi hj
   rw [hg] at hg2
   simp only [p_r18_tree_L3, ltT hj, cond_true]
   rw [nzN (by omega), show (i : Int) + (j : Int) = ((i + j : Nat) : Int) by omega, w64c (by omega), tmodN, ixN hg, apN (by simp; omega) (by omega), w64s (by omega), ih _ (by simp; omega)]
   have hlt2 : j < (rotL i l).length := by rw [rotL_len]; exact hj
   rw [List.drop_eq_getElem_cons hlt2]
   have : (rotL i l)[j] = l[(i + j) % l.length] := by
    rw [List.getElem?_eq_getElem hlt2] at hg2; exact Option.some.inj hg2
   rw [this]; simp)
  (j := 3) (n := KK) (s := []) h3 (by show _ < 1000; omega) (by simp)
 simpa using this
theorem tree_L2_true (n a0 : Int) (m : Nat) (l : List Int) (i : Int) : p_r18_tree_L2 KK a0 (m + 1) l true i = some (l, true) := by
 unfold p_r18_tree_L2
 cases decide (i < (l.length : Int)) <;> rfl
theorem tree_L2 {n : Nat} {l : List Tok} (h1 : 1 ≤ n) (hn : n ≤ 64) (h : Rn n l) (hl : 4 ≤ l.length) :
    ∀ m i fuel, l.length - i = m → m < fuel → (∃ i' u v rest, i ≤ i' ∧ i' < l.length ∧ rot i' l = A u v :: V v :: A v u :: rest ∧ (∃ t, rest.getLast? = some t ∧ t.stand = u)) →
     ∃ rest, p_r18_tree_L2 KK (n : Int) fuel (er n l) false (i : Int) = some (er n rest, true) ∧ Rn n rest ∧ rest.length + 3 = l.length := by
 have hok := h.ok
 have hlen := h.len
 have hel : (er n l).length = l.length := by simp [er]
 intro m
 induction m with
 | zero => rintro i fuel hm _ ⟨i', _, _, _, h1, h2, _⟩; omega
 | succ m ih =>
  intro i fuel hm hf hex
  obtain ⟨fuel, rfl⟩ : ∃ k, fuel = k + 1 := ⟨fuel - 1, by omega⟩
  have hi : i < l.length := by omega
  have hget : ∀ d, d < l.length → ∃ t, (rot i l)[d]? = some t ∧ l[(i + d) % l.length]? = some t ∧ (er n l)[(i + d) % l.length]? = some (tk n t) ∧ okT n t := by
   intro d hd
   have hlt : (i + d) % l.length < l.length := Nat.mod_lt _ (by omega)
   have := rotL_get hi hd
   refine ⟨l[(i + d) % l.length], this.trans (List.getElem?_eq_getElem hlt), List.getElem?_eq_getElem hlt, er_get (List.getElem?_eq_getElem hlt), hok _ (List.getElem_mem hlt)⟩
  obtain ⟨t0, r0, _, g0, k0⟩ := hget 0 (by omega)
  obtain ⟨t1, r1, _, g1, k1⟩ := hget 1 (by omega)
  obtain ⟨t2, r2, _, g2, k2⟩ := hget 2 (by omega)
  obtain ⟨tl, rl, _, gl, kl⟩ := hget (l.length - 1) (by omega)
  rw [Nat.add_zero, Nat.mod_eq_of_lt hi] at g0
  have hrl := rot_length i l
  obtain ⟨rest, hrot⟩ : ∃ rest, rot i l = t0 :: t1 :: t2 :: rest := by
   match hh : rot i l, hrl with
   | a :: b :: c :: rest, _ =>
    rw [hh] at r0 r1 r2
    simp at r0 r1 r2
    exact ⟨rest, by rw [r0, r1, r2]⟩
   | [], e => simp at e; omega
   | [_], e => simp at e; omega
   | [_, _], e => simp at e; omega
  have hlast : rest.getLast? = some tl := by
   rw [hrot] at rl hrl
   simp only [List.length_cons] at hrl
   rw [List.getLast?_eq_getElem?, ← rl]
   obtain ⟨k, hk⟩ : ∃ k, l.length = k + 4 := ⟨l.length - 4, by omega⟩
   rw [hk, show k + 4 - 1 = k + 3 by omega]
   simp only [List.getElem?_cons_succ]
   congr 1; omega
  have hskip : ∀ x, x = p_r18_tree_L2 KK (n : Int) fuel (er n l) false ((i + 1 : Nat) : Int) → (¬ ∃ u v, t0 = A u v ∧ t1 = V v ∧ t2 = A v u ∧ tl.stand = u) →
      ∃ rest, x = some (er n rest, true) ∧ Rn n rest ∧ rest.length + 3 = l.length := by
   intro x hx hno
   obtain ⟨i', u, v, rs, c1, c2, c3, t, c4, c5⟩ := hex
   have hne : i' ≠ i := by
    rintro rfl
    rw [hrot] at c3
    simp only [List.cons.injEq] at c3
    obtain ⟨rfl, rfl, rfl, rfl⟩ := c3
    rw [hlast] at c4; cases c4
    exact hno ⟨u, v, rfl, rfl, rfl, c5⟩
   rw [hx]
   exact ih (i + 1) fuel (by omega) (by omega) ⟨i', u, v, rs, by omega, c2, c3, t, c4, c5⟩
  unfold p_r18_tree_L2
  rw [hel, ltT hi, cond_true, Bool.not_false, cond_true, ixN g0, nzN (by omega), w64s (by omega), tmodN, ixN g1, nzN (by omega), show w64 ((i : Int) + 2) = ((i + 2 : Nat) : Int) by rw [w64N] <;> omega, tmodN, ixN g2, r18_Token h1 hn k0, Option.bind_some]
  rw [show decide ((l.length : Int) ≥ 4) = true by simp; omega, cond_true]
  cases t0 with
  | V v =>
   simp only [tel, cond_true, cond_false, Option.bind_some]
   exact hskip _ rfl (by rintro ⟨u, v, h, _⟩; cases h)
  | A u v =>
   simp only [tel, cond_true]
   by_cases e1 : t1 = V v
   ·subst e1
    rw [show (tk n (V v) == (v : Int)) = true by simp [tk], cond_true]
    rw [r18_Arc h1 hn k0.2.1 k0.1 (Ne.symm k0.2.2), Option.bind_some]
    by_cases e2 : t2 = A v u
    ·subst e2
     rw [show (tk n (A v u) == tk n (A v u)) = true by simp, cond_true, nzN (by omega)]
     have e3 : w64 (w64 ((i : Int) + (l.length : Int)) - 1) = ((i + (l.length - 1) : Nat) : Int) := by
      rw [w64N (x := (i : Int) + (l.length : Int)) (by omega) (by omega), w64N] <;> omega
     rw [e3, tmodN, ixN gl, r18_stands h1 hn kl, Option.bind_some]
     by_cases e4 : tl.stand = u
     ·rw [decide_eq_true e4, cond_true, tree_L3 (by rw [hel]; exact hi) (by rw [hel]; omega) (by rw [hel]; omega)]
      simp only [Option.bind_some]
      obtain ⟨fuel, rfl⟩ : ∃ k, fuel = k + 1 := ⟨fuel - 1, by omega⟩
      rw [tree_L2_true n, ← er_rot, hrot]
      have ht := ring_take h.ring h.nodup hrot
      refine ⟨rest, rfl, ⟨ht.1, ht.2.1, fun w hw => h.lt w (ht.2.2.2.mem_iff.1 (by simp [hw]))⟩, ht.2.2.1⟩
     ·rw [decide_eq_false e4, cond_false]
      simp only [Option.bind_some]
      exact hskip _ rfl (by rintro ⟨u', v', h, _, _, h4⟩; cases h; exact e4 h4)
    ·rw [show (tk n t2 == tk n (A v u)) = false by
      simp only [beq_eq_false_iff_ne]; intro hh; exact e2 (tk_inj k2 ⟨k0.2.1, k0.1, Ne.symm k0.2.2⟩ hh), cond_false]
     simp only [Option.bind_some]
     exact hskip _ rfl (by rintro ⟨u', v', h, _, h3, _⟩; cases h; exact e2 h3)
   ·rw [show (tk n t1 == (v : Int)) = false by
     simp only [beq_eq_false_iff_ne]; intro hh; exact e1 (tk_inj (t := V v) k1 k0.2.1 hh), cond_false]
    simp only [Option.bind_some]
    exact hskip _ rfl (by rintro ⟨u', v', h, h2, _⟩; cases h; exact e1 h2)
theorem tree_L1 {n : Nat} (h1 : 1 ≤ n) (hn : n ≤ 64) : ∀ (m : Nat) (l : List Tok) (fuel : Nat), l.length ≤ m → m < fuel → Rn n l → ∃ v, v < n ∧ p_r18_tree_L1 KK (n : Int) fuel (er n l) = some (.inl [(v : Int)]) := by
 intro m
 induction m with
 | zero =>
  intro l fuel hm _ h
  have := h.len
  omega
 | succ m ih =>
  intro l fuel hm hf h
  obtain ⟨fuel, rfl⟩ : ∃ k, fuel = k + 1 := ⟨fuel - 1, by omega⟩
  have hlen := h.len
  have hel : (er n l).length = l.length := by simp [er]
  unfold p_r18_tree_L1
  rw [hel]
  by_cases e : l.length = 1
  ·rw [show decide ((l.length : Int) > 1) = false by simp; omega, cond_false]
   match l, e with
   | [t], _ =>
    obtain ⟨r, hr⟩ := h.ring
    have := hr.own rfl
    have hm := mem_vs.1 this
    simp only [List.mem_singleton] at hm
    subst hm
    exact ⟨r, h.lt r this, rfl⟩
  ·rw [show decide ((l.length : Int) > 1) = true by simp; omega, cond_true]
   obtain ⟨i, u, v, rest, c1, c2, c3⟩ := ring_leaf h.ring e
   obtain ⟨rs, d1, d2, d3⟩ := tree_L2 h1 hn h (by omega) l.length 0 KK (by omega) (by show _ < 1000; omega) ⟨i, u, v, rest, Nat.zero_le _, c1, c2, c3⟩
   rw [show (0 : Int) = ((0 : Nat) : Int) from rfl, d1]
   simp only [Option.bind_some, Bool.not_true, cond_false]
   exact ih rs fuel (by omega) (by omega) d2
theorem r18_tree {n : Nat} {l : List Tok} (h1 : 1 ≤ n) (hn : n ≤ 64) (h : Rn n l) : p_r18_tree KK (n : Int) (er n l) = some true := by
 have hlen := h.len
 have hel : (er n l).length = l.length := by simp [er]
 unfold p_r18_tree
 rw [hel, apN (by simp; omega) (by omega), List.nil_append]
 obtain ⟨v, hv, e⟩ := tree_L1 h1 hn l.length l KK (Nat.le_refl _) (by show _ < 1000; omega) h
 rw [e]
 simp only [Option.bind_some, List.length_singleton]
 rw [show (((1 : Nat) : Int) == 1) = true from rfl, cond_true, ix0, r18_in h1 hn hv]; rfl
end Go.Ar.Mm
namespace Go.Ar.Mm
open ArTour ArForest ArWalk ArLeaf
open ArTour.Tok
def cs (l : List Nat) : List Int := l.map fun v : Nat => (v : Int)
def on1 (l : List Nat) : List (Int × Int) := l.map fun v : Nat => ((v : Int), (1 : Int))
structure Wk (st : List Nat × List Nat × List Nat) (l1 : List Int) (m2 m3 : Mp Int Int) : Prop where
 way : l1 = cs st.1.reverse
 came : m2.l = on1 st.2.1.reverse
 met : m3.l = on1 st.2.2.reverse
theorem on1_keys (l : List Nat) : (on1 l).map (·.1) = cs l := by simp [on1, cs]
theorem cs_mem {l : List Nat} {v : Nat} : (v : Int) ∈ cs l ↔ v ∈ l := by
 simp only [cs, List.mem_map]
 exact ⟨fun ⟨a, h, e⟩ => by rw [show v = a by omega]; exact h, fun h => ⟨v, h, rfl⟩⟩
theorem get_on1 {m : Mp Int Int} {l : List Nat} (h : m.l = on1 l) (v : Nat) : m.get? (v : Int) = if v ∈ l then some 1 else none := by
 unfold Mp.get?
 rw [h]
 clear h
 induction l with
 | nil => rfl
 | cons a l ih =>
  show List.lookup (v : Int) (((a : Int), (1 : Int)) :: on1 l) = _
  by_cases e : v = a
  ·subst e; simp [List.lookup]
  ·have : ((v : Int) == (a : Int)) = false := by simp; omega
   simp only [List.lookup, this, ih, List.mem_cons, e, false_or]
theorem set_on1 {m : Mp Int Int} {l : List Nat} (h : m.l = on1 l) {v : Nat} (hv : v ∉ l) : (m.set (v : Int) 1).l = on1 (l ++ [v]) := by
 have : (v : Int) ∉ m.l.map (·.1) := by rw [h, on1_keys, cs_mem]; exact hv
 rw [set_new this, h]; simp [on1]
theorem cs_len (l : List Nat) : (cs l).length = l.length := by simp [cs]
theorem cs_last (ws : List Nat) (w : Nat) : (cs (w :: ws).reverse)[ws.length]? = some (w : Int) := by
 simp [cs]
theorem cs_last2 (ws : List Nat) (w w1 : Nat) : (cs (w :: w1 :: ws).reverse)[ws.length]? = some (w1 : Int) := by
 simp [cs]
theorem walk_along {st st' : List Nat × List Nat × List Nat} {l1 : List Int} {m2 m3 : Mp Int Int} {u v : Nat} (h : Wk st l1 m2 m3) (hl : l1.length < 900) (hs : wstep st (A u v) = some st') :
    ∃ l1' m2', p_tour_walk_along KK ⟨l1, m2, m3⟩ (u : Int) (v : Int) = some (true, ⟨l1', m2', m3⟩) ∧ Wk st' l1' m2' m3 ∧ l1'.length ≤ l1.length + 1 := by
 obtain ⟨way, came, met⟩ := st
 obtain ⟨h1, h2, h3⟩ := h
 simp only at h1 h2 h3
 simp only [wstep] at hs
 cases way with
 | nil => simp at hs
 | cons w ws =>
  by_cases e0 : w = u
  ·subst e0
   simp only [List.head?_cons, List.tail_cons, ne_eq, not_true_eq_false, if_false] at hs
   replace hs : (if ws.head? = some v then some (ws, came, met) else if v ∈ came then none else some (v :: w :: ws, v :: came, met)) = some st' := hs
   have hlen : l1.length = ws.length + 1 := by rw [h1, cs_len]; simp
   have hw : w64 ((l1.length : Int) - 1) = ((ws.length : Nat) : Int) := by rw [w64N] <;> omega
   have hg : l1[ws.length]? = some (w : Int) := by rw [h1]; exact cs_last ws w
   have hgv := get_on1 h2 v
   have push : ws.head? ≠ some v → ∃ l1' m2', (bif (decide (((m2.get? (v : Int)).getD 0) > 0)) then some (false, Tour_walk_.mk l1 m2 m3) else (apP 8 l1.length [(v : Int)].length (some (true, (Tour_walk_.mk (l1 ++ [(v : Int)]) (m2.set (v : Int) (w64 (((m2.get? (v : Int)).getD 0) + 1))) m3))))) = some (true, ⟨l1', m2', m3⟩) ∧ Wk st' l1' m2' m3 ∧ l1'.length ≤ l1.length + 1 := by
    intro hh
    rw [if_neg hh] at hs
    by_cases hc : v ∈ came
    ·rw [if_pos hc] at hs; cases hs
    ·rw [if_neg hc] at hs
     cases hs
     have hn : v ∉ came.reverse := by simpa using hc
     rw [if_neg hn] at hgv
     refine ⟨l1 ++ [(v : Int)], m2.set (v : Int) 1, ?_, ⟨?_, ?_, h3⟩, by simp⟩
     ·rw [hgv]
      simp only [Option.getD_none]
      rw [show decide ((0 : Int) > 0) = false from rfl, cond_false, apN (by simp; omega) (by omega)]; rfl
     ·rw [h1]; simp [cs]
     ·rw [set_on1 h2 hn]; simp
   unfold p_tour_walk_along
   simp only []
   rw [hw, bdN (by omega), gtN hg, show ((w : Int) != (w : Int)) = false by simp, cond_false]
   cases ws with
   | nil =>
    rw [show decide ((([] : List Nat).length : Int) > 0) = false from rfl, cond_false]
    exact push (by simp)
   | cons w1 ws =>
    have hw2 : w64 ((((w1 :: ws).length : Nat) : Int) - 1) = ((ws.length : Nat) : Int) := by
     simp only [List.length_cons] at hlen ⊢; rw [w64N] <;> omega
    have hg2 : l1[ws.length]? = some (w1 : Int) := by rw [h1]; exact cs_last2 ws w w1
    rw [show decide ((((w1 :: ws).length : Nat) : Int) > 0) = true by simp, cond_true, hw2, bdN (by simp at hlen; omega), gtN hg2]
    by_cases e1 : w1 = v
    ·subst e1
     rw [show ((w1 : Int) == (w1 : Int)) = true by simp, cond_true, bdN (by omega)]
     simp only [List.head?_cons, if_true] at hs
     cases hs
     refine ⟨_, _, rfl, ⟨?_, h2, h3⟩, by simp; omega⟩
     rw [h1]
     have hlen2 : (cs (w1 :: ws).reverse).length = (w1 :: ws).length := by rw [cs_len]; simp
     have : cs (w :: w1 :: ws).reverse = cs (w1 :: ws).reverse ++ [(w : Int)] := by simp [cs]
     rw [this, List.take_left' hlen2]
    ·rw [show ((w1 : Int) == (v : Int)) = false by simp; omega, cond_false]
     exact push (by simpa using e1)
  ·have : (w :: ws).head? ≠ some u := by simpa using e0
   rw [if_pos this] at hs; cases hs
theorem met_suffix {l : List Tok} : ∀ {st st' : List Nat × List Nat × List Nat}, l.foldlM wstep st = some st' → st.2.2 <:+ st'.2.2 := by
 induction l with
 | nil => intro st st' h; simp at h; rw [h]; exact List.suffix_refl _
 | cons t l ih =>
  intro st st' h
  rw [List.foldlM_cons] at h
  cases hw : wstep st t with
  | none => rw [hw] at h; cases h
  | some s1 =>
   rw [hw] at h
   have := ih h
   refine List.IsSuffix.trans ?_ this
   cases t with
   | V u =>
    simp only [wstep] at hw
    split at hw
    ·cases hw; exact List.suffix_cons _ _
    ·cases hw
   | A u v =>
    simp only [wstep] at hw
    split at hw
    ·cases hw
    ·split at hw
     ·cases hw; exact List.suffix_refl _
     ·split at hw
      ·cases hw
      ·cases hw; exact List.suffix_refl _
theorem goes_L1 {n : Nat} {ls : List Tok} (h1 : 1 ≤ n) (hn : n ≤ 64) (hok : ∀ t ∈ ls, okT n t) (hll : ls.length < 400) :
    ∀ (rest : List Tok) (j fuel : Nat) (st st' : List Nat × List Nat × List Nat) (l1 : List Int) (m2 m3 : Mp Int Int), ls.drop j = rest → j + rest.length = ls.length → rest.length < fuel → Wk st l1 m2 m3 → l1.length ≤ j + 1 →
     rest.foldlM wstep st = some st' → st'.2.2.Nodup → ∃ l1' m2' m3', p_tour_goes_L1 KK (er n ls) (n : Int) fuel (j : Int) l1 m2 m3 = some (.inl (l1', m2', m3')) ∧ Wk st' l1' m2' m3' := by
 intro rest
 induction rest with
 | nil =>
  intro j fuel st st' l1 m2 m3 hd hj hf hw hl hfold _
  obtain ⟨fuel, rfl⟩ : ∃ k, fuel = k + 1 := ⟨fuel - 1, by simp at hf; omega⟩
  simp at hfold hj
  subst hfold
  unfold p_tour_goes_L1
  rw [show (er n ls).length = ls.length by simp [er], ltF (by omega), cond_false]
  exact ⟨l1, m2, m3, rfl, hw⟩
 | cons t rest ih =>
  intro j fuel st st' l1 m2 m3 hd hj hf hw hl hfold hnd
  obtain ⟨fuel, rfl⟩ : ∃ k, fuel = k + 1 := ⟨fuel - 1, by simp at hf; omega⟩
  simp only [List.length_cons] at hj hf
  have hlt : j < ls.length := by omega
  have hdr := List.drop_eq_getElem_cons hlt
  rw [hd] at hdr
  simp only [List.cons.injEq] at hdr
  have hg : ls[j]? = some t := by rw [List.getElem?_eq_getElem hlt, hdr.1]
  have ht : okT n t := hok t (List.mem_of_getElem? hg)
  rw [List.foldlM_cons] at hfold
  cases hws : wstep st t with
  | none => rw [hws] at hfold; cases hfold
  | some s1 =>
   rw [hws] at hfold
   have hsuf := met_suffix hfold
   unfold p_tour_goes_L1
   rw [show (er n ls).length = ls.length by simp [er], ltT hlt, cond_true, ixN (er_get hg), tour_Token h1 hn ht, Option.bind_some]
   cases t with
   | A u v =>
    obtain ⟨l1', m2', e1, hw', hl'⟩ := walk_along hw (by omega) hws
    simp only [tel, Bool.not_true, cond_false, cond_true, e1, Option.bind_some]
    rw [w64s (by omega)]
    exact ih (j + 1) fuel s1 st' l1' m2' m3 hdr.2.symm (by omega) (by omega) hw' (by omega) hfold hnd
   | V u =>
    simp only [wstep] at hws
    split at hws
    ·rename_i hh
     cases hws
     obtain ⟨way, came, met⟩ := st
     obtain ⟨a1, a2, a3⟩ := hw
     simp only at a1 a2 a3 hh hsuf
     cases way with
     | nil => simp at hh
     | cons w ws =>
      simp at hh
      subst hh
      have hlen : l1.length = ws.length + 1 := by rw [a1, cs_len]; simp
      have hwl : w64 ((l1.length : Int) - 1) = ((ws.length : Nat) : Int) := by rw [w64N] <;> omega
      have hgl : l1[ws.length]? = some (w : Int) := by rw [a1]; exact cs_last ws w
      have hn1 : w ∉ met := by
       have := hnd.sublist hsuf.sublist
       exact (List.nodup_cons.1 this).1
      have hn2 : w ∉ met.reverse := by simpa using hn1
      have hgm := get_on1 a3 w
      rw [if_neg hn2] at hgm
      simp only [tel, Bool.not_true, Bool.not_false, cond_false, cond_true]
      rw [hwl, bdN (by omega), gtN hgl, show ((w : Int) != (w : Int)) = false by simp, cond_false, hgm, w64s (by omega)]
      refine ih (j + 1) fuel _ st' l1 m2 (m3.set (w : Int) (w64 ((none : Option Int).getD 0 + 1))) hdr.2.symm (by omega) (by omega) ⟨a1, a2, ?_⟩ (by omega) hfold hnd
      show (m3.set (w : Int) 1).l = _
      rw [set_on1 a3 hn2]; simp
    ·cases hws
theorem tour_goes {n : Nat} {l : List Tok} (h1 : 1 ≤ n) (hn : n ≤ 64) (h : ArForest.Good n l) : p_tour_goes KK (n : Int) (er n l) = some true := by
 obtain ⟨came, met, e1, e2, e3, e4, e5⟩ := walk_good h
 obtain ⟨y, ey⟩ := h.head
 have hr : Rn n l := ⟨h.ring, h.nodup, h.lt⟩
 have hlt := h.lt _ h.least_mem
 have hlen := hr.len
 have h0 : (er n l)[0]? = some ((ArForest.least n l : Nat) : Int) := by rw [ey]; simp [er, tk]; rw [← ey]
 have hx : ∀ {β : Type} (k : Int → Option β), ixP (er n l) 0 k = k ((ArForest.least n l : Nat) : Int) := fun k => ixN (j := 0) h0
 unfold p_tour_goes
 rw [hx, tour_in h1 hn hlt]
 simp only [Option.bind_some, Bool.not_true, cond_false, hx]
 obtain ⟨l1', m2', m3', g1, g2⟩ := goes_L1 h1 hn hr.ok (by omega) l 0 KK ([ArForest.least n l], [ArForest.least n l], []) _ [((ArForest.least n l : Nat) : Int)] ((Mp.empty : Mp Int Int).set ((ArForest.least n l : Nat) : Int) 1) (Mp.empty : Mp Int Int) rfl (by simp) (by show _ < 1000; omega)
  ⟨by simp [cs], by simp [Mp.set, Mp.setL, Mp.empty, on1], by simp [Mp.empty, on1]⟩ (by simp) e1 e3
 rw [show (0 : Int) = ((0 : Nat) : Int) from rfl, g1]
 simp only [Option.bind_some]
 rw [g2.way]
 simp only [List.reverse_singleton]
 rw [show (((cs [ArForest.least n l]).length : Int) == 1) = true by simp [cs], cond_true]
 have p1 : m3'.len = m2'.len := by
  unfold Mp.len
  rw [g2.met, g2.came]
  simp only [on1, List.length_map, List.length_reverse]
  exact (List.Perm.length_eq ((List.perm_ext_iff_of_nodup e3 e2).2 fun v => by rw [e4, e5]))
 rw [p1]; simp
end Go.Ar.Mm
namespace Go.Ar.Mm
open ArTour ArForest ArWalk ArLeaf
open ArTour.Tok
theorem get_set {κ ν : Type} [DecidableEq κ] (m : Mp κ ν) (k q : κ) (v : ν) : (m.set k v).get? q = if q = k then some v else m.get? q := by
 unfold Mp.get? Mp.set Mp.setL
 simp only []
 generalize m.l = l
 split
 ·rename_i h
  induction l with
  | nil => simp at h
  | cons p l ih =>
   obtain ⟨a, b⟩ := p
   by_cases e : a = k
   ·subst e
    by_cases e2 : q = a
    ·subst e2; simp [List.lookup]
    ·have h2 : (q == a) = false := by simpa using e2
     simp only [List.map_cons, if_true, List.lookup, h2, if_neg e2]
     clear ih h
     induction l with
     | nil => rfl
     | cons p l ih =>
      obtain ⟨c, d⟩ := p
      by_cases e3 : c = a
      ·subst e3; simp only [List.map_cons, if_true, List.lookup, h2]; exact ih
      ·simp only [List.map_cons, if_neg e3, List.lookup]
       cases (q == c)
       ·exact ih
       ·rfl
   ·have h3 : k ∈ l.map (·.1) := by
     simp only [List.map_cons, List.mem_cons] at h
     rcases h with h | h
     ·exact absurd h.symm e
     ·exact h
    simp only [List.map_cons, if_neg e, List.lookup]
    by_cases e2 : q = a
    ·subst e2
     simp [e]
    ·have h2 : (q == a) = false := by simpa using e2
     rw [h2]; exact ih h3
 ·rename_i h
  induction l with
  | nil =>
   by_cases e : q = k
   ·subst e; simp [List.lookup]
   ·have h2 : (q == k) = false := by simpa using e
    simp [List.lookup, h2, e]
  | cons p l ih =>
   obtain ⟨a, b⟩ := p
   simp only [List.map_cons, List.mem_cons, not_or] at h
   by_cases e2 : q = a
   ·subst e2
    have : ¬ q = k := fun e => h.1 e.symm
    simp [List.lookup, this]
   ·have h2 : (q == a) = false := by simpa using e2
    simp only [List.cons_append, List.lookup, h2]
    exact ih h.2
theorem mn_least {l : List Int} {d : Int} (h : ∀ x ∈ l, d ≤ x) : mn l d = d := by
 unfold mn
 induction l with
 | nil => rfl
 | cons a l ih =>
  have := h a (by simp)
  rw [List.foldl_cons, if_neg (by omega)]
  exact ih fun x hx => h x (by simp [hx])
theorem good_head {n : Nat} {l : List Tok} (h : ArForest.Good n l) : (∃ t, er n l = ((ArForest.least n l : Nat) : Int) :: t) ∧ mn (er n l) ((ArForest.least n l : Nat) : Int) = ((ArForest.least n l : Nat) : Int) := by
 obtain ⟨y, e⟩ := h.head
 have hlt := h.lt _ h.least_mem
 refine ⟨⟨er n y, ?_⟩, mn_least fun x hx => ?_⟩
 ·conv => lhs; rw [e]
  rfl
 ·obtain ⟨t, ht, rfl⟩ := List.mem_map.1 hx
  cases t with
  | V v => have := h.least_le v (mem_vs.2 ht); simp only [tk]; omega
  | A u v => simp only [tk]; omega
theorem r01_Ints {l : List Int} (hl : l.length < 1000) : p_r01_Ints KK l l = some true := by
 have := loopL (σ := Unit) (ρ := Sum Unit Bool) l (fun n j _ => p_r01_Ints_L1 KK l l n (j : Int)) (fun _ _ => some (.inl ())) (fun _ _ => True)
     (fun n s _ => by simp only [p_r01_Ints_L1, ltF (Nat.le_refl _), cond_false])
     (fun n j s y rest _ hlt hx hr ih => by
      have ih := ih () trivial
      simp only [p_r01_Ints_L1, ltT hlt, cond_true, ixN hx]
      rw [show (y != y) = false by simp, cond_false, w64s (by omega)]
      exact ih)
     (n := KK) (s := ()) hl trivial
 unfold p_r01_Ints
 rw [show ((l.length : Int) != (l.length : Int)) = false by simp, cond_false, show (0 : Int) = ((0 : Nat) : Int) from rfl, this]; rfl
theorem equal_eq : ∀ (a b : List Int) (n : Nat) (i : Int), p_slices_Equal_Sint_int_L1 KK a b n i = p_r01_Ints_L1 KK a b n i := by
 intro a b n
 induction n with
 | zero => intro i; rfl
 | succ n ih => intro i; simp only [p_slices_Equal_Sint_int_L1, p_r01_Ints_L1, ih]
theorem slices_Equal {l : List Int} (hl : l.length < 1000) : p_slices_Equal_Sint_int KK l l = some true := by
 have := r01_Ints hl
 unfold p_r01_Ints at this
 unfold p_slices_Equal_Sint_int
 rw [equal_eq]; exact this
theorem r14_Lists {l : List (List Int)} (hl : l.length < 1000) (h : ∀ x ∈ l, x.length < 1000) : p_r14_Lists KK l l = some true := by
 have := loopL (σ := Unit) (ρ := Sum Unit Bool) l (fun n j _ => p_r14_Lists_L1 KK l l n (j : Int)) (fun _ _ => some (.inl ())) (fun _ _ => True)
     (fun n s _ => by simp only [p_r14_Lists_L1, ltF (Nat.le_refl _), cond_false])
     (fun n j s y rest _ hlt hx hr ih => by
      have ih := ih () trivial
      simp only [p_r14_Lists_L1, ltT hlt, cond_true, ixN hx, r01_Ints (h y (List.mem_of_getElem? hx)), Option.bind_some, Bool.not_true, cond_false]
      rw [w64s (by omega)]
      exact ih)
     (n := KK) (s := ()) hl trivial
 unfold p_r14_Lists
 rw [show ((l.length : Int) != (l.length : Int)) = false by simp, cond_false, show (0 : Int) = ((0 : Nat) : Int) from rfl, this]; rfl
theorem trn_head {y : Int} {t : List Int} : trn (y :: t) y = y :: t := by simp [trn]
def MtM (n : Nat) (m : Mp Int Int) (seen : List Nat) : Prop := ∀ v, v < n → (m.get? (v : Int)).getD 0 = if v ∈ seen then 1 else 0
structure MtB (n : Nat) (l : List Bool) (seen : List Nat) : Prop where
 len : l.length = n
 get : ∀ v, v < n → l[v]? = some (decide (v ∈ seen))
theorem tour_L2 {n : Nat} {ls : List Tok} {a0 : Fo} {v4 : Int} (ha : a0.n = (n : Int)) (hok : ∀ t ∈ ls, okT n t) (hll : ls.length < 900) :
    ∀ (rest : List Tok) (j fuel : Nat) (m : Mp Int Int) (seen : List Nat), ls.drop j = rest → j + rest.length = ls.length → rest.length < fuel → MtM n m seen → (seen ++ vs rest).Nodup →
     ∃ m', p_tour_Right_L2 KK a0 fuel v4 (er n ls) (ls.length : Int) (j : Int) m = some (.inl (v4, m')) ∧ MtM n m' (seen ++ vs rest) := by
 intro rest
 induction rest with
 | nil =>
  intro j fuel m seen hd hj hf hm _
  obtain ⟨fuel, rfl⟩ : ∃ k, fuel = k + 1 := ⟨fuel - 1, by simp at hf; omega⟩
  simp at hj
  unfold p_tour_Right_L2
  rw [ltF (by omega), cond_false]
  exact ⟨m, rfl, by simpa using hm⟩
 | cons t rest ih =>
  intro j fuel m seen hd hj hf hm hn
  obtain ⟨fuel, rfl⟩ : ∃ k, fuel = k + 1 := ⟨fuel - 1, by simp at hf; omega⟩
  simp only [List.length_cons] at hj hf
  have hlt : j < ls.length := by omega
  have hdr := List.drop_eq_getElem_cons hlt
  rw [hd] at hdr
  simp only [List.cons.injEq] at hdr
  have hg : ls[j]? = some t := by rw [List.getElem?_eq_getElem hlt, hdr.1]
  have ht : okT n t := hok t (List.mem_of_getElem? hg)
  unfold p_tour_Right_L2
  rw [ltT hlt, cond_true, ixN (er_get hg), ha]
  cases t with
  | V v =>
   simp only [okT] at ht
   simp only [vs_V] at hn
   have hv : v ∉ seen := fun h => (List.nodup_append.1 hn).2.2 v h v (by simp) rfl
   have hmv := hm v ht
   rw [if_neg hv] at hmv
   rw [show tk n (V v) = (v : Int) from rfl, ltT ht, cond_true, hmv, show decide ((0 : Int) > 0) = false from rfl, cond_false, w64s (by omega)]
   obtain ⟨m', e1, e2⟩ := ih (j + 1) fuel (m.set (v : Int) (w64 (0 + 1))) (seen ++ [v]) hdr.2.symm (by omega) (by omega) (by
    intro w hw
    rw [get_set]
    by_cases e : w = v
    ·subst e; simp; rfl
    ·rw [if_neg (by omega), hm w hw]; simp [e]) (by simpa using hn)
   exact ⟨m', e1, by simpa using e2⟩
  | A u v =>
   have hnt : ¬ tk n (A u v) < (n : Int) := fun h => by obtain ⟨w, e⟩ := (tk_lt ht).1 h; cases e
   rw [decide_eq_false hnt, cond_false, w64s (by omega)]
   obtain ⟨m', e1, e2⟩ := ih (j + 1) fuel (m.set (tk n (A u v)) (w64 ((m.get? (tk n (A u v))).getD 0 + 1))) seen hdr.2.symm (by omega) (by omega) (by
    intro w hw
    rw [get_set, if_neg (by omega)]
    exact hm w hw) (by simpa using hn)
   exact ⟨m', e1, by simpa using e2⟩
theorem r18_L2 {n : Nat} {ls : List Tok} {a0 : Fo} {v4 : Int} (ha : a0.n = (n : Int)) (hok : ∀ t ∈ ls, okT n t) (hll : ls.length < 900) :
    ∀ (rest : List Tok) (j fuel : Nat) (l2 : List Bool) (seen : List Nat), ls.drop j = rest → j + rest.length = ls.length → rest.length < fuel → MtB n l2 seen → (seen ++ vs rest).Nodup → seen.length + rest.length < 100000 →
     ∃ l2', p_r18_Right_L2 KK a0 fuel v4 (seen.length : Int) (er n ls) (j : Int) l2 = some (.inl (v4, ((seen ++ vs rest).length : Int), l2')) ∧ MtB n l2' (seen ++ vs rest) := by
 intro rest
 induction rest with
 | nil =>
  intro j fuel m seen hd hj hf hm _ _
  obtain ⟨fuel, rfl⟩ : ∃ k, fuel = k + 1 := ⟨fuel - 1, by simp at hf; omega⟩
  simp at hj
  unfold p_r18_Right_L2
  rw [show (er n ls).length = ls.length by simp [er], ltF (by omega), cond_false]
  exact ⟨m, by simp, by simpa using hm⟩
 | cons t rest ih =>
  intro j fuel m seen hd hj hf hm hn hsm
  obtain ⟨fuel, rfl⟩ : ∃ k, fuel = k + 1 := ⟨fuel - 1, by simp at hf; omega⟩
  simp only [List.length_cons] at hj hf hsm
  have hlt : j < ls.length := by omega
  have hdr := List.drop_eq_getElem_cons hlt
  rw [hd] at hdr
  simp only [List.cons.injEq] at hdr
  have hg : ls[j]? = some t := by rw [List.getElem?_eq_getElem hlt, hdr.1]
  have ht : okT n t := hok t (List.mem_of_getElem? hg)
  unfold p_r18_Right_L2
  rw [show (er n ls).length = ls.length by simp [er], ltT hlt, cond_true, ixN (er_get hg), ha]
  cases t with
  | V v =>
   simp only [okT] at ht
   simp only [vs_V] at hn
   have hv : v ∉ seen := fun h => (List.nodup_append.1 hn).2.2 v h v (by simp) rfl
   have hmv := hm.get v ht
   rw [decide_eq_false hv] at hmv
   have hml := hm.len
   rw [ixN (er_get hg), ixN (er_get hg), show tk n (V v) = (v : Int) from rfl, ltT ht, cond_true, bdN (by omega), gtN hmv, cond_false, bdN (by omega), gtN hmv, w64s (by omega), w64s (by omega)]
   obtain ⟨m', e1, e2⟩ := ih (j + 1) fuel (m.set v true) (seen ++ [v]) hdr.2.symm (by omega) (by omega) ⟨by simp [hml], by
    intro w hw
    by_cases e : w = v
    ·subst e; rw [List.getElem?_set_self (by omega)]; simp
    ·rw [List.getElem?_set_ne (Ne.symm e), hm.get w hw]; simp [e]⟩ (by simpa using hn) (by simp; omega)
   refine ⟨m', ?_, by simpa using e2⟩
   simpa using e1
  | A u v =>
   have hnt : ¬ tk n (A u v) < (n : Int) := fun h => by obtain ⟨w, e⟩ := (tk_lt ht).1 h; cases e
   rw [decide_eq_false hnt, cond_false, w64s (by omega)]
   obtain ⟨m', e1, e2⟩ := ih (j + 1) fuel m seen hdr.2.symm (by omega) (by omega) hm (by simpa using hn) (by omega)
   exact ⟨m', e1, by simpa using e2⟩
theorem tour_L1 {n : Nat} {f : List (List Tok)} (h1 : 1 ≤ n) (hn : n ≤ 64) (hg : ∀ r ∈ f, ArForest.Good n r) (hfl : f.length < 900) :
    ∀ (rest : List (List Tok)) (j fuel : Nat) (last : Int) (m : Mp Int Int) (seen : List Nat), f.drop j = rest → j + rest.length = f.length → rest.length < fuel → (∀ r ∈ rest, last < ((ArForest.least n r : Nat) : Int)) →
     rest.Pairwise (fun a b => ArForest.least n a < ArForest.least n b) → MtM n m seen → (seen ++ rest.flatMap vs).Nodup →
     ∃ m', p_tour_Right_L1 KK ⟨n, ef n f⟩ fuel last (j : Int) m = some (.inl m') ∧ MtM n m' (seen ++ rest.flatMap vs) := by
 intro rest
 induction rest with
 | nil =>
  intro j fuel last m seen hd hj hf _ _ hm _
  obtain ⟨fuel, rfl⟩ : ∃ k, fuel = k + 1 := ⟨fuel - 1, by simp at hf; omega⟩
  simp at hj
  unfold p_tour_Right_L1
  simp only [show (ef n f).length = f.length by simp [ef], ltF (show f.length ≤ j by omega), cond_false]
  exact ⟨m, rfl, by simpa using hm⟩
 | cons r rest ih =>
  intro j fuel last m seen hd hj hf hlast hpw hm hnd
  obtain ⟨fuel, rfl⟩ : ∃ k, fuel = k + 1 := ⟨fuel - 1, by simp at hf; omega⟩
  simp only [List.length_cons] at hj hf
  have hlt : j < f.length := by omega
  have hdr := List.drop_eq_getElem_cons hlt
  rw [hd] at hdr
  simp only [List.cons.injEq] at hdr
  have hgj : f[j]? = some r := by rw [List.getElem?_eq_getElem hlt, hdr.1]
  have hr := hg r (List.mem_of_getElem? hgj)
  have hge : (ef n f)[j]? = some (er n r) := by simp [ef, hgj]
  have hRn : Rn n r := ⟨hr.ring, hr.nodup, hr.lt⟩
  have hlen := hRn.len
  obtain ⟨⟨tl, eh⟩, emn⟩ := good_head hr
  have hx : ∀ {β : Type} (k : Int → Option β), ixP (er n r) 0 k = k ((ArForest.least n r : Nat) : Int) := fun k => by rw [eh]; exact ix0
  have hel : (er n r).length = r.length := by simp [er]
  have hla := hlast r (by simp)
  unfold p_tour_Right_L1
  simp only [show (ef n f).length = f.length by simp [ef], ltT hlt, cond_true, ixN hge, hx]
  rw [show (((er n r).length : Int) == 0) = false by rw [hel]; simp only [beq_eq_false_iff_ne]; omega, cond_false, decide_eq_false (p := ((ArForest.least n r : Nat) : Int) ≤ last) (by omega), cond_false, ring_Right (good_rg hn hr)]
  simp only [Option.bind_some, Bool.not_true, cond_false]
  have hmin : p_slices_Min_Sint_int KK (er n r) = some ((ArForest.least n r : Nat) : Int) := by
   have := min_L1 (y := ((ArForest.least n r : Nat) : Int)) (l := tl) (by rw [← eh, hel]; omega)
   rw [← eh, emn] at this; exact this
  rw [hmin]
  simp only [Option.bind_some]
  rw [show (((ArForest.least n r : Nat) : Int) != ((ArForest.least n r : Nat) : Int)) = false by simp, cond_false, tour_goes h1 hn hr]
  simp only [Option.bind_some, Bool.not_true, cond_false]
  rw [List.flatMap_cons, ← List.append_assoc] at hnd
  obtain ⟨m', e1, e2⟩ := tour_L2 (a0 := ⟨n, ef n f⟩) (v4 := ((ArForest.least n r : Nat) : Int)) rfl hRn.ok (by omega) r 0 KK m seen rfl (by simp) (by show _ < 1000; omega) hm (List.nodup_append.1 hnd).1
  rw [hel, show (0 : Int) = ((0 : Nat) : Int) from rfl, e1]
  simp only [Option.bind_some]
  rw [w64s (by omega)]
  obtain ⟨hp1, hp2⟩ := List.pairwise_cons.1 hpw
  obtain ⟨m'', d1, d2⟩ := ih (j + 1) fuel ((ArForest.least n r : Nat) : Int) m' (seen ++ vs r) hdr.2.symm (by omega) (by omega) (fun r' hr' => by have := hp1 r' hr'; omega) hp2 e2 hnd
  exact ⟨m'', d1, by rw [List.flatMap_cons, ← List.append_assoc]; exact d2⟩
theorem wf_len {n : Nat} {f : List (List Tok)} (h : Wf n f) : f.length ≤ n := by
 have h1 := h.all.length_eq
 simp only [List.length_flatMap, List.length_range] at h1
 rw [← h1]
 have : ∀ g : List (List Tok), (∀ r ∈ g, ArForest.Good n r) → g.length ≤ (g.map fun r => (vs r).length).sum := by
  intro g
  induction g with
  | nil => simp
  | cons r g ih =>
   intro hg
   have := ih fun r hr => hg r (by simp [hr])
   have h2 : (vs r).length ≠ 0 := fun e => ArForest.Ring.vs_ne (hg r (by simp)).ring (List.length_eq_zero_iff.1 e)
   simp only [List.length_cons, List.map_cons, List.sum_cons]; omega
 exact this f h.good
theorem tour_Right {n : Nat} {f : List (List Tok)} (h1 : 1 ≤ n) (hn : n ≤ 64) (h : Wf n f) : p_tour_Right KK ⟨n, ef n f⟩ = some true := by
 have hfl := wf_len h
 obtain ⟨m', e1, e2⟩ := tour_L1 h1 hn h.good (by omega) f 0 KK (-1) Mp.empty [] rfl (by simp) (by show _ < 1000; omega) (fun r _ => by omega) h.sorted (by intro v _; simp [Mp.get?, Mp.empty]) (by simpa using h.all.nodup_iff.2 List.nodup_range)
 unfold p_tour_Right
 simp only [tour_sized h1 hn, Option.bind_some, Bool.not_true, cond_false]
 rw [show (0 : Int) = ((0 : Nat) : Int) from rfl, e1]
 simp only [Option.bind_some]
 have := loopC (σ := Unit) (ρ := Sum Unit Bool) n (fun k j _ => p_tour_Right_L3 KK ⟨n, ef n f⟩ m' k (j : Int)) (fun _ _ => some (.inl ())) (fun _ _ => True)
  (fun k s _ => by simp only [p_tour_Right_L3, ltF (Nat.le_refl _), cond_false])
  (fun k j s _ hj ih => by
   have hmem : j ∈ ([] : List Nat) ++ f.flatMap vs := by simpa using h.all.mem_iff.2 (by simpa using hj)
   simp only [p_tour_Right_L3, ltT hj, cond_true, e2 j hj, if_pos hmem]
   rw [show ((1 : Int) == 0) = false from rfl, cond_false, w64s (by omega)]
   exact ih () trivial)
  (j := 0) (n := KK) (s := ()) (Nat.zero_le _) (by show _ < 1000; omega) trivial
 rw [this]; rfl
theorem r18_L1 {n : Nat} {f : List (List Tok)} (h1 : 1 ≤ n) (hn : n ≤ 64) (hg : ∀ r ∈ f, ArForest.Good n r) (hfl : f.length < 900) :
    ∀ (rest : List (List Tok)) (j fuel : Nat) (last : Int) (m : List Bool) (seen : List Nat), f.drop j = rest → j + rest.length = f.length → rest.length < fuel → (∀ r ∈ rest, last < ((ArForest.least n r : Nat) : Int)) →
     rest.Pairwise (fun a b => ArForest.least n a < ArForest.least n b) → MtB n m seen → (seen ++ rest.flatMap vs).Nodup → (∀ v ∈ seen, v < n) →
     p_r18_Right_L1 KK ⟨n, ef n f⟩ fuel last (seen.length : Int) (j : Int) m = some (.inl ((seen ++ rest.flatMap vs).length : Int)) := by
 intro rest
 induction rest with
 | nil =>
  intro j fuel last m seen hd hj hf _ _ hm _ _
  obtain ⟨fuel, rfl⟩ : ∃ k, fuel = k + 1 := ⟨fuel - 1, by simp at hf; omega⟩
  simp at hj
  unfold p_r18_Right_L1
  simp only [show (ef n f).length = f.length by simp [ef], ltF (show f.length ≤ j by omega), cond_false]
  simp
 | cons r rest ih =>
  intro j fuel last m seen hd hj hf hlast hpw hm hnd hsn
  obtain ⟨fuel, rfl⟩ : ∃ k, fuel = k + 1 := ⟨fuel - 1, by simp at hf; omega⟩
  simp only [List.length_cons] at hj hf
  have hlt : j < f.length := by omega
  have hdr := List.drop_eq_getElem_cons hlt
  rw [hd] at hdr
  simp only [List.cons.injEq] at hdr
  have hgj : f[j]? = some r := by rw [List.getElem?_eq_getElem hlt, hdr.1]
  have hr := hg r (List.mem_of_getElem? hgj)
  have hge : (ef n f)[j]? = some (er n r) := by simp [ef, hgj]
  have hRn : Rn n r := ⟨hr.ring, hr.nodup, hr.lt⟩
  have hlen := hRn.len
  obtain ⟨⟨tl, eh⟩, emn⟩ := good_head hr
  have hx : ∀ {β : Type} (k : Int → Option β), ixP (er n r) 0 k = k ((ArForest.least n r : Nat) : Int) := fun k => by rw [eh]; exact ix0
  have hel : (er n r).length = r.length := by simp [er]
  have hla := hlast r (by simp)
  have hrg := good_rg hn hr
  have hpl : p_r13_Plain KK (er n r) = some (er n r) := by
   rw [r13_Plain hrg eh (by rw [emn, eh]; simp), emn]
   congr 1
   rw [eh]; exact trn_head
  unfold p_r18_Right_L1
  simp only [show (ef n f).length = f.length by simp [ef], ltT hlt, cond_true, ixN hge, hx, r13_Right hrg, Option.bind_some, Bool.not_true, cond_false]
  rw [show (((er n r).length : Int) == 0) = false by rw [hel]; simp only [beq_eq_false_iff_ne]; omega, cond_false, r18_tree h1 hn hRn]
  simp only [Option.bind_some, Bool.not_true, cond_false, hpl]
  rw [r14_Lists (by simp) (by simp [hel]; omega)]
  simp only [Option.bind_some, Bool.not_true, cond_false]
  rw [decide_eq_false (p := ((ArForest.least n r : Nat) : Int) ≤ last) (by omega), cond_false]
  rw [List.flatMap_cons, ← List.append_assoc] at hnd
  have hsl : seen.length ≤ n := lt_len (List.nodup_append.1 (List.nodup_append.1 hnd).1).1 hsn
  obtain ⟨m', e1, e2⟩ := r18_L2 (a0 := ⟨n, ef n f⟩) (v4 := ((ArForest.least n r : Nat) : Int)) rfl hRn.ok (by omega) r 0 KK m seen rfl (by simp) (by show _ < 1000; omega) hm (List.nodup_append.1 hnd).1 (by omega)
  rw [show (0 : Int) = ((0 : Nat) : Int) from rfl, e1]
  simp only [Option.bind_some]
  rw [w64s (by omega)]
  obtain ⟨hp1, hp2⟩ := List.pairwise_cons.1 hpw
  have := ih (j + 1) fuel ((ArForest.least n r : Nat) : Int) m' (seen ++ vs r) hdr.2.symm (by omega) (by omega) (fun r' hr' => by have := hp1 r' hr'; omega) hp2 e2 hnd (by
   intro v hv
   rcases List.mem_append.1 hv with hv | hv
   ·exact hsn v hv
   ·exact hr.lt v hv)
  rw [this, List.flatMap_cons, ← List.append_assoc]
theorem r18_Right {n : Nat} {f : List (List Tok)} (h1 : 1 ≤ n) (hn : n ≤ 64) (h : Wf n f) : p_r18_Right KK ⟨n, ef n f⟩ = some true := by
 have hfl := wf_len h
 have e1 := r18_L1 h1 hn h.good (by omega) f 0 KK (-1) (List.replicate n false) [] rfl (by simp) (by show _ < 1000; omega) (fun r _ => by omega) h.sorted ⟨by simp, fun v hv => by simp [hv]⟩ (by simpa using h.all.nodup_iff.2 List.nodup_range) (by simp)
 unfold p_r18_Right
 simp only []
 rw [decide_eq_false (p := (n : Int) < 1) (by omega), cond_false, decide_eq_false (p := (n : Int) > 64) (by omega), cond_false, decide_eq_false (p := ((ef n f).length : Int) > (n : Int)) (by simp [ef]; omega), cond_false, mkN (by omega) (by omega)]
 simp only [List.length_nil] at e1
 rw [show (0 : Int) = ((0 : Nat) : Int) from rfl, e1]
 simp only [Option.bind_some, List.nil_append, h.all.length_eq, List.length_range]
 simp
end Go.Ar.Mm
namespace Go.Ar.Mm
open ArTour ArForest ArWalk ArLeaf
open ArTour.Tok
theorem okV {n v : Nat} (h : v < n) : okT n (V v) := h
theorem good_ok' {n : Nat} {r : List Tok} (h : ArForest.Good n r) : ∀ t ∈ r, okT n t := good_ok h.ring h.nodup h.lt
theorem plc_er {n v : Nat} {r : List Tok} (hr : ArForest.Good n r) (hv : v < n) : (0 ≤ plc (er n r) (v : Int)) ↔ r.contains (V v) = true := by
 have := er_mem (good_ok' hr) (okV hv)
 rw [show tk n (V v) = (v : Int) from rfl] at this
 unfold plc
 by_cases h : (v : Int) ∈ er n r
 ·rw [if_pos h]
  have := this.1 h
  simp [this]
 ·rw [if_neg h]
  have h2 : V v ∉ r := fun hh => h (this.2 hh)
  simp [h2]
theorem er_len {n : Nat} (r : List Tok) : (er n r).length = r.length := by simp [er]
theorem ef_len {n : Nat} (f : List (List Tok)) : (ef n f).length = f.length := by simp [ef]
theorem good_len {n : Nat} {r : List Tok} (hr : ArForest.Good n r) : r.length + 2 ≤ 3 * n ∧ 1 ≤ r.length := by
 have := (Rn.mk hr.ring hr.nodup hr.lt : Rn n r).len
 omega
theorem r18_place {n v : Nat} {f : List (List Tok)} (hn : n ≤ 64) (h : Wf n f) (hv : v < n) : p_r18_place KK ⟨n, ef n f⟩ (v : Int) = some ((place f v : Nat) : Int) := by
 have hfl := wf_len h
 have hpl := (place_lt h hv).1
 have := loopI' (σ := Unit) (ρ := Sum Unit Int) f (fun k j _ => p_r18_place_L1 KK ⟨n, ef n f⟩ (v : Int) k (j : Int)) (fun r _ => if r.findIdx (fun r => r.contains (V v)) < r.length then some (.inr (((r.findIdx (fun r => r.contains (V v)) : Nat) : Int) + f.length - r.length)) else some (.inl ())) (fun _ _ => True)
     (fun k s _ => by simp only [p_r18_place_L1, ef_len, ltF (Nat.le_refl _), cond_false]; simp)
     (fun k j s y rest _ hlt hx hr ih => by
      have ih := ih () trivial
      have hy := h.good y (List.mem_of_getElem? hx)
      have hlen : rest.length = f.length - (j + 1) := by rw [← hr]; simp
      have hge : (ef n f)[j]? = some (er n y) := by simp [ef, hx]
      have hyl := good_len hy
      simp only [p_r18_place_L1, ef_len, ltT hlt, cond_true, ixN hge, r13_Place (v : Int) (show (er n y).length < 1000 by rw [er_len]; omega), Option.bind_some]
      have hp := plc_er hy hv
      simp only [List.findIdx_cons, List.length_cons]
      cases hc : y.contains (V v)
      ·rw [decide_eq_false (p := plc (er n y) (v : Int) ≥ 0) (by rw [hc] at hp; simpa using hp), cond_false, cond_false, w64s (by omega), ih]
       by_cases hh : rest.findIdx (fun r => r.contains (V v)) < rest.length
       ·rw [if_pos hh, if_pos (by omega)]; congr 2; omega
       ·rw [if_neg hh, if_neg (by omega)]
      ·rw [decide_eq_true (p := plc (er n y) (v : Int) ≥ 0) (by rw [hc] at hp; simpa using hp), cond_true, cond_true, if_pos (by omega)]
       congr 2; omega)
     f.length 0 KK () (by omega) (by omega) (by show _ < 1000; omega) trivial
 unfold p_r18_place
 rw [show (0 : Int) = ((0 : Nat) : Int) from rfl, this]
 simp only [List.drop_zero]
 unfold place at hpl ⊢
 rw [if_pos hpl]
 simp only [Option.bind_some]
 congr 1
 omega
theorem mn_mem (l : List Int) : ∀ d, (mn l d = d ∨ mn l d ∈ l) ∧ mn l d ≤ d ∧ ∀ x ∈ l, mn l d ≤ x := by
 induction l with
 | nil => intro d; simp [mn]
 | cons a l ih =>
  intro d
  have e : mn (a :: l) d = mn l (if a < d then a else d) := rfl
  rw [e]
  by_cases hh : a < d
  ·rw [if_pos hh]
   obtain ⟨h1, h2, h3⟩ := ih a
   refine ⟨.inr ?_, by omega, ?_⟩
   ·rcases h1 with h1 | h1
    ·rw [h1]; simp
    ·simp [h1]
   ·intro x hx
    rcases List.mem_cons.1 hx with rfl | hx
    ·exact h2
    ·exact h3 x hx
  ·rw [if_neg hh]
   obtain ⟨h1, h2, h3⟩ := ih d
   refine ⟨?_, h2, ?_⟩
   ·rcases h1 with h1 | h1
    ·exact .inl h1
    ·exact .inr (by simp [h1])
   ·intro x hx
    rcases List.mem_cons.1 hx with rfl | hx
    ·omega
    ·exact h3 x hx
theorem mn_er {n : Nat} {l : List Tok} (h : Rn n l) {y : Int} {t : List Int} (e : er n l = y :: t) : mn (er n l) y = ((ArForest.least n l : Nat) : Int) ∧ mn (er n l) y ∈ er n l := by
 obtain ⟨h1, h2, h3⟩ := mn_mem (er n l) y
 have hm : mn (er n l) y ∈ er n l := by
  rcases h1 with h1 | h1
  ·rw [h1, e]; simp
  ·exact h1
 obtain ⟨l1, l2⟩ := ArForest.least_mem (ArForest.Ring.vs_ne h.ring) h.lt
 have hle : mn (er n l) y ≤ ((ArForest.least n l : Nat) : Int) := h3 _ (List.mem_map.2 ⟨V _, mem_vs.1 l1, rfl⟩)
 refine ⟨?_, hm⟩
 obtain ⟨s, hs, es⟩ := List.mem_map.1 hm
 cases s with
 | V v => have := l2 v (mem_vs.2 hs); simp only [tk] at es; omega
 | A u v =>
  have := h.lt _ l1
  simp only [tk] at es; omega
theorem rn_ne {n : Nat} {l : List Tok} (h : Rn n l) : ∃ y t, er n l = y :: t := by
 have := h.len
 cases hh : er n l with
 | nil => have := er_len (n := n) l; rw [hh] at this; simp at this; omega
 | cons y t => exact ⟨y, t, rfl⟩
theorem r13_Plain_rn {n : Nat} {l : List Tok} (hn : n ≤ 64) (h : Rn n l) : p_r13_Plain KK (er n l) = some (er n (plain n l)) := by
 obtain ⟨y, t, e⟩ := rn_ne h
 obtain ⟨m1, m2⟩ := mn_er h e
 rw [r13_Plain (rg_er hn h.ring h.nodup h.lt) e m2, m1]
 have hv := h.lt _ (ArForest.least_mem (ArForest.Ring.vs_ne h.ring) h.lt).1
 rw [show ((ArForest.least n l : Nat) : Int) = tk n (V (ArForest.least n l)) from rfl, er_trn h.ok (okV hv)]; rfl
theorem ring_Plain_rn {n : Nat} {l : List Tok} (hn : n ≤ 64) (h : Rn n l) : p_ring_Plain KK (er n l) = some (er n (plain n l)) := by
 obtain ⟨y, t, e⟩ := rn_ne h
 obtain ⟨m1, m2⟩ := mn_er h e
 rw [ring_Plain (rg_er hn h.ring h.nodup h.lt) e m2, m1]
 have hv := h.lt _ (ArForest.least_mem (ArForest.Ring.vs_ne h.ring) h.lt).1
 rw [show ((ArForest.least n l : Nat) : Int) = tk n (V (ArForest.least n l)) from rfl, er_trn h.ok (okV hv)]; rfl
theorem plain_good' {n : Nat} {l : List Tok} (h : Rn n l) : ArForest.Good n (plain n l) := plain_good h.ring h.nodup h.lt
theorem r18_without {l : List (List Int)} {k : Nat} (hk : k < l.length) (hl : l.length < 900) : p_r18_without KK l (k : Int) = some (l.eraseIdx k) := by
 unfold p_r18_without
 rw [slN0 (by omega), apN (by simp; omega) (by omega), w64s (by omega), slNl (by omega), apN (by simp; omega) (by omega), List.nil_append, List.eraseIdx_eq_take_drop_succ]
theorem put_take {n : Nat} (r : List Tok) (f : List (List Tok)) : put n r f = f.take (f.findIdx fun a => !decide (ArForest.least n a < ArForest.least n r)) ++ [r] ++ f.drop (f.findIdx fun a => !decide (ArForest.least n a < ArForest.least n r)) := by
 induction f with
 | nil => rfl
 | cons a f ih =>
  rw [List.findIdx_cons]
  unfold put
  by_cases h : ArForest.least n a < ArForest.least n r
  ·rw [if_pos h, decide_eq_true h]
   simp only [Bool.not_true, cond_false, List.take_succ_cons, List.drop_succ_cons, List.cons_append]
   rw [ih]
  ·rw [if_neg h, decide_eq_false h]
   simp
theorem r18_put {n : Nat} {f : List (List Tok)} {l : List Tok} (hn : n ≤ 64) (hf : ∀ r ∈ f, ArForest.Good n r) (hfl : f.length < 900) (h : Rn n l) : p_r18_put KK (ef n f) (er n l) = some (ef n (put n (plain n l) f)) := by
 have gp := plain_good' h
 obtain ⟨⟨tp, ep⟩, _⟩ := good_head gp
 have := loopI' (σ := Unit) (ρ := List Int × Int) f (fun k j _ => p_r18_put_L1 KK (ef n f) k (er n (plain n l)) (j : Int)) (fun r _ => some (er n (plain n l), ((r.findIdx (fun a => !decide (ArForest.least n a < ArForest.least n (plain n l))) : Nat) : Int) + f.length - r.length)) (fun _ _ => True)
     (fun k s _ => by simp only [p_r18_put_L1, ef_len, ltF (Nat.le_refl _), cond_false]; simp)
     (fun k j s y rest _ hlt hx hr ih => by
      have ih := ih () trivial
      have hy := hf y (List.mem_of_getElem? hx)
      obtain ⟨⟨ty, ey⟩, _⟩ := good_head hy
      have hlen : rest.length = f.length - (j + 1) := by rw [← hr]; simp
      have hge : (ef n f)[j]? = some (er n y) := by simp [ef, hx]
      have x1 : ∀ {β : Type} (k : Int → Option β), ixP (er n y) 0 k = k ((ArForest.least n y : Nat) : Int) := fun k => by rw [ey]; exact ix0
      have x2 : ∀ {β : Type} (k : Int → Option β), ixP (er n (plain n l)) 0 k = k ((ArForest.least n (plain n l) : Nat) : Int) := fun k => by rw [ep]; exact ix0
      simp only [p_r18_put_L1, ef_len, ltT hlt, cond_true, ixN hge, x1, x2, List.findIdx_cons, List.length_cons]
      by_cases hh : ArForest.least n y < ArForest.least n (plain n l)
      ·rw [decide_eq_true (p := ((ArForest.least n y : Nat) : Int) < ((ArForest.least n (plain n l) : Nat) : Int)) (by omega), decide_eq_true hh, cond_true, w64s (by omega), ih]
       simp only [Bool.not_true, cond_false]; congr 2; omega
      ·rw [decide_eq_false (p := ((ArForest.least n y : Nat) : Int) < ((ArForest.least n (plain n l) : Nat) : Int)) (by omega), decide_eq_false hh, cond_false]
       simp only [Bool.not_false, cond_true]; congr 2; omega)
     f.length 0 KK () (by omega) (by omega) (by show _ < 1000; omega) trivial
 simp only [List.drop_zero] at this
 have hle : f.findIdx (fun a => !decide (ArForest.least n a < ArForest.least n (plain n l))) ≤ f.length := List.findIdx_le_length
 have hpt := put_take (n := n) (plain n l) f
 generalize f.findIdx (fun a => !decide (ArForest.least n a < ArForest.least n (plain n l))) = k at this hle hpt
 unfold p_r18_put
 rw [r13_Plain_rn hn h]
 simp only [Option.bind_some]
 rw [show (0 : Int) = ((0 : Nat) : Int) from rfl, this]
 simp only [Option.bind_some]
 rw [show (k : Int) + (f.length : Int) - (f.length : Int) = (k : Int) by omega]
 rw [slN (Nat.zero_le _) (by rw [ef_len]; omega), apN (by simp [ef_len]; omega) (by omega), apN (by simp [ef_len]; omega) (by omega), slNl (by rw [ef_len]; omega), apN (by simp [ef_len]; omega) (by omega), hpt]
 simp [ef, List.map_take, List.map_drop]
theorem er_joined {n u v : Nat} {a b : List Tok} (ha : ArForest.Good n a) (hb : ArForest.Good n b) (hu : u < n) (hv : v < n) :
    (((([(u : Int), tk n (A u v)] ++ trn (er n b) (v : Int)) ++ [tk n (A v u)]) ++ (trn (er n a) (u : Int)).drop 1)) = er n (joined u v a b) := by
 rw [show (v : Int) = tk n (V v) from rfl, show (u : Int) = tk n (V u) from rfl, er_trn (good_ok' hb) (okV hv), er_trn (good_ok' ha) (okV hu)]
 unfold joined
 simp [er, List.drop_one, List.map_tail]
theorem er_erase {α β : Type} {g : α → β} (f : List α) (k : Nat) : (f.map g).eraseIdx k = (f.eraseIdx k).map g := by
 simp [List.eraseIdx_eq_take_drop_succ, List.map_take, List.map_drop]
structure Lk (n : Nat) (f : List (List Tok)) (u v : Nat) (a b : List Tok) : Prop where
 ai : f[place f u]? = some a
 bj : f[place f v]? = some b
 ga : ArForest.Good n a
 gb : ArForest.Good n b
 ma : V u ∈ a
 mb : V v ∈ b
 li : place f u < f.length
 lj : place f v < f.length
 rn : Rn n (joined u v a b)
 eq : link n f u v = put n (plain n (joined u v a b)) (without f (place f u) (place f v))
 gw : ∀ r ∈ without f (place f u) (place f v), ArForest.Good n r
theorem lk_of {n u v : Nat} {f : List (List Tok)} (h : Wf n f) (hu : u < n) (hv : v < n) (hne : place f u ≠ place f v) : ∃ a b, Lk n f u v a b := by
 obtain ⟨hi, hui⟩ := place_lt h hu
 obtain ⟨hj, hvj⟩ := place_lt h hv
 have hp := without_perm f _ _ hi hj hne
 refine ⟨f.getD (place f u) [], f.getD (place f v) [], ?_⟩
 have ga : ArForest.Good n (f.getD (place f u) []) := h.good _ (hp.mem_iff.2 (by simp))
 have gb : ArForest.Good n (f.getD (place f v) []) := h.good _ (hp.mem_iff.2 (by simp))
 have hall : (vs (f.getD (place f u) []) ++ (vs (f.getD (place f v) []) ++ (without f (place f u) (place f v)).flatMap vs)).Perm (List.range n) := by
  have := (hp.flatMap_right vs).symm.trans h.all
  simpa [List.flatMap_cons] using this
 have hnd := hall.nodup_iff.2 List.nodup_range
 have hjv : (vs (joined u v (f.getD (place f u) []) (f.getD (place f v) []))).Perm (vs (f.getD (place f u) []) ++ vs (f.getD (place f v) [])) := joined_vs hui
 refine ⟨?_, ?_, ga, gb, hui, hvj, hi, hj, ⟨joined_ring ga.ring gb.ring hui hvj, ?_, ?_⟩, ?_, fun r hr => h.good _ (hp.mem_iff.2 (by simp [hr]))⟩
 ·rw [List.getD_eq_getElem?_getD, List.getElem?_eq_getElem hi]; rfl
 ·rw [List.getD_eq_getElem?_getD, List.getElem?_eq_getElem hj]; rfl
 ·refine hjv.nodup_iff.2 ?_
  rw [← List.append_assoc] at hnd
  exact (List.nodup_append.1 hnd).1
 ·intro x hx
  rcases List.mem_append.1 (hjv.mem_iff.1 hx) with hx | hx
  ·exact ga.lt x hx
  ·exact gb.lt x hx
 ·unfold link; simp only []; rw [if_neg hne]
def lkE (f : List (List Tok)) (u v : Nat) : Int := if place f u = place f v then 5 else 0
theorem r18_Link {n u v : Nat} {f : List (List Tok)} (h1 : 1 ≤ n) (hn : n ≤ 64) (h : Wf n f) (hu : u < n) (hv : v < n) : p_r18_Link KK ⟨n, ef n f⟩ (u : Int) (v : Int) = some (⟨n, ef n (link n f u v)⟩, lkE f u v) := by
 have hfl := wf_len h
 unfold p_r18_Link
 simp only [r18_Right h1 hn h, r18_in h1 hn hu, r18_in h1 hn hv, r18_place hn h hu, r18_place hn h hv, Option.bind_some, Bool.not_true, cond_false]
 by_cases hne : place f u = place f v
 ·rw [hne, show (((place f v : Nat) : Int) == ((place f v : Nat) : Int)) = true by simp, cond_true]
  unfold link lkE; simp [hne]
 ·obtain ⟨a, b, k⟩ := lk_of h hu hv hne
  have huv : u ≠ v := by rintro rfl; exact hne rfl
  rw [show (((place f u : Nat) : Int) == ((place f v : Nat) : Int)) = false by simp only [beq_eq_false_iff_ne]; omega, cond_false]
  have ra := good_rg hn k.ga
  have rb := good_rg hn k.gb
  have ea : (u : Int) ∈ er n a := (er_mem (good_ok' k.ga) (okV hu)).2 k.ma
  have eb : (v : Int) ∈ er n b := (er_mem (good_ok' k.gb) (okV hv)).2 k.mb
  have la := good_len k.ga
  have lb := good_len k.gb
  have gi : (ef n f)[place f u]? = some (er n a) := by simp [ef, k.ai]
  have gj : (ef n f)[place f v]? = some (er n b) := by simp [ef, k.bj]
  rw [ixN gi, r13_From ra ea]
  simp only [Option.bind_some]
  rw [ixN gj, r13_From rb eb]
  simp only [Option.bind_some]
  rw [r18_Arc h1 hn hu hv huv]
  simp only [Option.bind_some]
  rw [apN (by simp [trn_len, er_len]; omega) (by omega), r18_Arc h1 hn hv hu huv.symm]
  simp only [Option.bind_some]
  rw [apN (by simp [trn_len, er_len]; omega) (by omega), show (1 : Int) = ((1 : Nat) : Int) from rfl, slNl (by rw [trn_len, er_len]; omega), apN (by simp [trn_len, er_len]; omega) (by omega), er_joined k.ga k.gb hu hv]
  have lw : ((f.eraseIdx (max (place f u) (place f v)))).length = f.length - 1 := by
   rw [List.length_eraseIdx, if_pos]; have := k.li; have := k.lj; omega
  have hmx : (if ((place f u : Nat) : Int) < ((place f v : Nat) : Int) then ((place f v : Nat) : Int) else ((place f u : Nat) : Int)) = ((max (place f u) (place f v) : Nat) : Int) := by split <;> omega
  have hmn : (if ((place f v : Nat) : Int) < ((place f u : Nat) : Int) then ((place f v : Nat) : Int) else ((place f u : Nat) : Int)) = ((min (place f u) (place f v) : Nat) : Int) := by split <;> omega
  have li := k.li
  have lj := k.lj
  rw [hmx, hmn, r18_without (by rw [ef_len]; omega) (by rw [ef_len]; omega)]
  simp only [Option.bind_some]
  rw [show (ef n f).eraseIdx (max (place f u) (place f v)) = ef n (f.eraseIdx (max (place f u) (place f v))) from er_erase _ _]
  rw [r18_without (by rw [ef_len, lw]; omega) (by rw [ef_len, lw]; omega)]
  simp only [Option.bind_some]
  rw [show (ef n (f.eraseIdx (max (place f u) (place f v)))).eraseIdx (min (place f u) (place f v)) = ef n (without f (place f u) (place f v)) from er_erase _ _]
  rw [r18_put hn k.gw (by
   unfold without; rw [List.length_eraseIdx, lw]; split <;> omega) k.rn]
  simp only [Option.bind_some, k.eq, lkE, if_neg hne]
end Go.Ar.Mm
namespace Go.Ar.Mm
open ArTour ArForest ArWalk ArLeaf
open ArTour.Tok
theorem tour_place_1 {n v : Nat} {r : List Tok} (hn : n ≤ 64) (hr : ArForest.Good n r) (hv : v < n) : p_tour_place_1 KK (er n r) (v : Int) = some (r.contains (V v)) := by
 have hl := good_len hr
 unfold p_tour_place_1
 rw [slices_Contains _ (by rw [er_len]; omega)]
 simp only [Option.bind_some]
 congr 1
 have := er_mem (good_ok' hr) (okV hv)
 rw [show tk n (V v) = (v : Int) from rfl] at this
 rw [Bool.eq_iff_iff]; simp [this]
theorem tour_place {n v : Nat} {f : List (List Tok)} (hn : n ≤ 64) (h : Wf n f) (hv : v < n) : p_tour_place KK ⟨n, ef n f⟩ (v : Int) = some ((place f v : Nat) : Int) := by
 have hfl := wf_len h
 have hpl := (place_lt h hv).1
 have := loopI' (σ := Unit) (ρ := Sum Unit Int) f (fun k j _ => p_slices_IndexFunc_SSint_Sint_L1 KK (ef n f) (fun x0 => p_tour_place_1 KK x0 (v : Int)) k (j : Int)) (fun r _ => if r.findIdx (fun r => r.contains (V v)) < r.length then some (.inr (((r.findIdx (fun r => r.contains (V v)) : Nat) : Int) + f.length - r.length)) else some (.inl ())) (fun _ _ => True)
     (fun k s _ => by simp only [p_slices_IndexFunc_SSint_Sint_L1, ef_len, ltF (Nat.le_refl _), cond_false]; simp)
     (fun k j s y rest _ hlt hx hr ih => by
      have ih := ih () trivial
      have hy := h.good y (List.mem_of_getElem? hx)
      have hlen : rest.length = f.length - (j + 1) := by rw [← hr]; simp
      have hge : (ef n f)[j]? = some (er n y) := by simp [ef, hx]
      simp only [p_slices_IndexFunc_SSint_Sint_L1, ef_len, ltT hlt, cond_true, ixN hge, tour_place_1 hn hy hv, Option.bind_some]
      simp only [List.findIdx_cons, List.length_cons]
      cases hc : y.contains (V v)
      ·rw [cond_false, cond_false, w64s (by omega), ih]
       by_cases hh : rest.findIdx (fun r => r.contains (V v)) < rest.length
       ·rw [if_pos hh, if_pos (by omega)]; congr 2; omega
       ·rw [if_neg hh, if_neg (by omega)]
      ·rw [cond_true, cond_true, if_pos (by omega)]
       congr 2; omega)
     f.length 0 KK () (by omega) (by omega) (by show _ < 1000; omega) trivial
 unfold p_tour_place p_slices_IndexFunc_SSint_Sint
 simp only []
 rw [show (0 : Int) = ((0 : Nat) : Int) from rfl, this]
 simp only [List.drop_zero]
 unfold place at hpl ⊢
 rw [if_pos hpl]
 simp only [Option.bind_some]
 congr 1
 omega
def keep {α : Type} (k : Nat) (p q : Nat) : List α → List α
 | [] => []
 | x :: xs => if k = p ∨ k = q then keep (k + 1) p q xs else x :: keep (k + 1) p q xs
theorem keep0 {α : Type} (f : List α) : ∀ k p q, p < k → q < k → keep k p q f = f := by
 induction f with
 | nil => intro k p q _ _; rfl
 | cons x f ih => intro k p q h1 h2; unfold keep; rw [if_neg (by omega), ih _ _ _ (by omega) (by omega)]
theorem keep1 {α : Type} (f : List α) : ∀ k p b, p < k → keep k p (k + b) f = f.eraseIdx b := by
 induction f with
 | nil => intro k p b _; rfl
 | cons x f ih =>
  intro k p b h1
  unfold keep
  cases b with
  | zero => rw [if_pos (by omega), keep0 _ _ _ _ (by omega) (by omega)]; rfl
  | succ b => rw [if_neg (by omega), show k + (b + 1) = (k + 1) + b by omega, ih _ _ _ (by omega)]; rfl
theorem keep2 {α : Type} (f : List α) : ∀ k a b, a < b → keep k (k + a) (k + b) f = (f.eraseIdx b).eraseIdx a := by
 induction f with
 | nil => intro k a b _; simp [keep]
 | cons x f ih =>
  intro k a b h
  unfold keep
  obtain ⟨b, rfl⟩ : ∃ c, b = c + 1 := ⟨b - 1, by omega⟩
  cases a with
  | zero => rw [if_pos (by omega), show k + (b + 1) = (k + 1) + b by omega, keep1 _ _ _ _ (by omega)]; simp
  | succ a => rw [if_neg (by omega), show k + (b + 1) = (k + 1) + b by omega, show k + (a + 1) = (k + 1) + a by omega, ih _ _ _ (by omega)]; simp
theorem keep_comm {α : Type} (f : List α) : ∀ k p q, keep k p q f = keep k q p f := by
 induction f with
 | nil => intro k p q; rfl
 | cons x f ih =>
  intro k p q
  unfold keep
  rw [ih]
  by_cases h : k = p ∨ k = q
  ·rw [if_pos h, if_pos h.symm]
  ·rw [if_neg h, if_neg (fun hh => h hh.symm)]
theorem keep_without {f : List (List Tok)} {i j : Nat} (hne : i ≠ j) : keep 0 i j f = without f i j := by
 unfold without
 rcases Nat.lt_or_gt_of_ne hne with h | h
 ·have := keep2 f 0 i j h
  simp only [Nat.zero_add] at this
  rw [this, Nat.max_eq_right (by omega), Nat.min_eq_left (by omega)]
 ·have := keep2 f 0 j i h
  simp only [Nat.zero_add] at this
  rw [keep_comm, this, Nat.max_eq_left (by omega), Nat.min_eq_right (by omega)]
theorem keep_map {α β : Type} (g : α → β) (f : List α) : ∀ k p q, keep k p q (f.map g) = (keep k p q f).map g := by
 induction f with
 | nil => intro k p q; rfl
 | cons x f ih =>
  intro k p q
  simp only [List.map_cons, keep]
  split
  ·exact ih _ _ _
  ·rw [List.map_cons, ih]
theorem with_L1 {a0 : Fo} {i j : Nat} (hl : a0.rings.length < 900) : p_tour_with_L1 KK a0 [(i : Int), (j : Int)] KK 0 [] = some (keep 0 i j a0.rings) := by
 have := loopI' (σ := List (List Int)) (ρ := List (List Int)) a0.rings (fun k p s => p_tour_with_L1 KK a0 [(i : Int), (j : Int)] k (p : Int) s) (fun r s => some (s ++ keep (a0.rings.length - r.length) i j r)) (fun p s => s.length ≤ p)
     (fun k s _ => by simp only [p_tour_with_L1, ltF (Nat.le_refl _), cond_false]; simp [keep])
     (fun k p s y rest hs hlt hx hr ih => by
      have hlen : rest.length = a0.rings.length - (p + 1) := by rw [← hr]; simp
      simp only [p_tour_with_L1, ltT hlt, cond_true, ixN hx]
      rw [slices_Contains _ (by simp)]
      simp only [Option.bind_some, List.length_cons]
      rw [show a0.rings.length - (rest.length + 1) = p by omega]
      unfold keep
      have hd : decide ((p : Int) ∈ [(i : Int), (j : Int)]) = decide (p = i ∨ p = j) := by rw [Bool.eq_iff_iff]; simp; omega
      rw [hd]
      by_cases hh : p = i ∨ p = j
      ·rw [decide_eq_true hh, if_pos hh, Bool.not_true, cond_false, w64s (by omega), ih s (by omega), show a0.rings.length - rest.length = p + 1 by omega]
      ·rw [decide_eq_false hh, if_neg hh, Bool.not_false, cond_true, apN (by simp; omega) (by omega), w64s (by omega), ih (s ++ [y]) (by simp; omega), show a0.rings.length - rest.length = p + 1 by omega]
       simp)
     a0.rings.length 0 KK [] (by omega) (by omega) (by show _ < 1000; omega) (by simp)
 simpa using this
theorem cmp_Compare (a b : Int) : p_cmp_Compare_int KK a b = some (if a < b then -1 else if b < a then 1 else 0) := by
 unfold p_cmp_Compare_int p_cmp_isNaN_int
 simp only [Option.bind_some]
 rw [show (a != a) = false by simp, show (b != b) = false by simp, cond_false, cond_false]
 by_cases h : a < b
 ·rw [decide_eq_true h, cond_true, if_pos h]
 ·rw [decide_eq_false h, cond_false, if_neg h]
  by_cases h2 : b < a
  ·rw [show decide (a > b) = true from decide_eq_true h2, cond_true, if_pos h2]
  ·rw [show decide (a > b) = false from decide_eq_false h2, cond_false, if_neg h2]
theorem with_1 {n : Nat} {a b : List Tok} (ha : ArForest.Good n a) (hb : ArForest.Good n b) : p_tour_with_1 KK (er n a) (er n b) = some (if ArForest.least n a < ArForest.least n b then -1 else if ArForest.least n b < ArForest.least n a then 1 else 0) := by
 obtain ⟨⟨ta, ea⟩, _⟩ := good_head ha
 obtain ⟨⟨tb, eb⟩, _⟩ := good_head hb
 unfold p_tour_with_1
 rw [ea, eb, ix0, ix0, cmp_Compare]
 simp only [Option.bind_some]
 congr 1
 split <;> split <;> (try split) <;> (try split) <;> first | rfl | omega
theorem put_snoc_lt {n : Nat} {x y : List Tok} (a : List (List Tok)) (h : ArForest.least n x < ArForest.least n y) : put n x (a ++ [y]) = put n x a ++ [y] := by
 induction a with
 | nil => simp only [List.nil_append, put]; rw [if_neg (by omega)]; rfl
 | cons b a ih =>
  simp only [List.cons_append, put]
  split
  ·rw [ih]; rfl
  ·rfl
theorem put_last {n : Nat} {x : List Tok} (a : List (List Tok)) (h : ∀ b ∈ a, ArForest.least n b < ArForest.least n x) : put n x a = a ++ [x] := by
 induction a with
 | nil => rfl
 | cons b a ih =>
  simp only [put]
  rw [if_pos (h b (by simp)), ih fun c hc => h c (by simp [hc])]; rfl
theorem ins_L2 {n : Nat} {x : List Tok} (gx : ArForest.Good n x) : ∀ (m : Nat) (a b : List (List Tok)) (fuel : Nat), a.length = m → m < fuel → a.length + b.length < 900 → (∀ r ∈ a, ArForest.Good n r) → a.Pairwise (fun p q => ArForest.least n p < ArForest.least n q) → (∀ r ∈ a, ArForest.least n r ≠ ArForest.least n x) →
    p_slices_insertionSortCmpFunc_Sint_L2 KK 0 (fun x0 x1 => p_tour_with_1 KK x0 x1) fuel (a.length : Int) (ef n (a ++ x :: b)) = some (ef n (put n x a ++ b)) := by
 intro m
 induction m with
 | zero =>
  intro a b fuel hm hf _ _ _ _
  obtain ⟨fuel, rfl⟩ : ∃ k, fuel = k + 1 := ⟨fuel - 1, by omega⟩
  have := List.length_eq_zero_iff.1 hm
  subst this
  unfold p_slices_insertionSortCmpFunc_Sint_L2
  rw [show decide ((([] : List (List Tok)).length : Int) > 0) = false from rfl, cond_false]; rfl
 | succ m ih =>
  intro a b fuel hm hf hs ha hp hne
  obtain ⟨fuel, rfl⟩ : ∃ k, fuel = k + 1 := ⟨fuel - 1, by omega⟩
  rcases List.eq_nil_or_concat a with rfl | ⟨a, y, rfl⟩
  ·simp at hm
  simp only [List.concat_eq_append] at *
  simp only [List.length_append, List.length_singleton] at hm hs
  have hal : a.length = m := by omega
  have gy := ha y (by simp)
  have hl : (ef n (a ++ [y] ++ x :: b)).length = a.length + 2 + b.length := by rw [ef_len]; simp; omega
  have g1 : (ef n (a ++ [y] ++ x :: b))[a.length + 1]? = some (er n x) := by
   simp only [ef, List.getElem?_map]
   rw [List.getElem?_append_right (by simp)]; simp
  have g2 : (ef n (a ++ [y] ++ x :: b))[a.length]? = some (er n y) := by
   simp only [ef, List.getElem?_map]
   rw [List.append_assoc, List.getElem?_append_right (by simp)]; simp
  have hw : w64 (((a.length + 1 : Nat) : Int) - 1) = (a.length : Int) := by rw [w64N] <;> omega
  unfold p_slices_insertionSortCmpFunc_Sint_L2
  rw [show ((a ++ [y]).length : Int) = ((a.length + 1 : Nat) : Int) by simp]
  rw [decide_eq_true (p := ((a.length + 1 : Nat) : Int) > 0) (by omega), cond_true, bdN (by omega), gtN g1, hw, bdN (by omega), gtN g2, with_1 gx gy]
  simp only [Option.bind_some]
  have hyx := hne y (by simp)
  by_cases hlt : ArForest.least n x < ArForest.least n y
  ·rw [if_pos hlt, show decide ((-1 : Int) < 0) = true from rfl, cond_true, bdN (by omega), gtN g2, bdN (by omega), gtN g1, bdN (by omega), gtN g1, bdN (by omega), gtN (by rw [List.getElem?_set_ne (by omega)]; exact g2)]
   have e : ((ef n (a ++ [y] ++ x :: b)).set (a.length + 1) (er n y)).set a.length (er n x) = ef n (a ++ x :: (y :: b)) := by
    have e1 : ef n (a ++ [y] ++ x :: b) = ef n a ++ er n y :: er n x :: ef n b := by simp [ef]
    have e2 : (ef n a).length = a.length := ef_len a
    rw [e1, List.set_append_right _ _ (by omega), List.set_append_right _ _ (by omega), e2]
    simp [ef]
   rw [e]
   have hp1 := List.pairwise_append.1 hp
   have := ih a (y :: b) fuel hal (by omega) (by simp; omega) (fun r hr => ha r (by simp [hr])) hp1.1 (fun r hr => hne r (by simp [hr]))
   rw [this, put_snoc_lt a hlt]
   simp
  ·rw [if_neg hlt]
   have h3 : ArForest.least n y < ArForest.least n x := by omega
   rw [if_pos h3, show decide ((1 : Int) < 0) = false from rfl, cond_false]
   have hp1 := List.pairwise_append.1 hp
   rw [put_last (a ++ [y]) (fun c hc => by
    rcases List.mem_append.1 hc with hc | hc
    ·have := hp1.2.2 c hc y (by simp); omega
    ·simp at hc; subst hc; exact h3)]
   simp
theorem ins_L1 {n : Nat} : ∀ (b a : List (List Tok)) (fuel : Nat), b.length < fuel → a.length + b.length < 900 → (∀ r ∈ a ++ b, ArForest.Good n r) → a.Pairwise (fun p q => ArForest.least n p < ArForest.least n q) → (a ++ b).Pairwise (fun p q => ArForest.least n p ≠ ArForest.least n q) →
    p_slices_insertionSortCmpFunc_Sint_L1 KK ((a.length + b.length : Nat) : Int) 0 (fun x0 x1 => p_tour_with_1 KK x0 x1) fuel (a.length : Int) (ef n (a ++ b)) = some (ef n (b.foldl (fun s x => put n x s) a)) := by
 intro b
 induction b with
 | nil =>
  intro a fuel hf _ _ _ _
  obtain ⟨fuel, rfl⟩ : ∃ k, fuel = k + 1 := ⟨fuel - 1, by omega⟩
  unfold p_slices_insertionSortCmpFunc_Sint_L1
  rw [ltF (by simp), cond_false]; simp
 | cons x b ih =>
  intro a fuel hf hs hg hp hd
  obtain ⟨fuel, rfl⟩ : ∃ k, fuel = k + 1 := ⟨fuel - 1, by omega⟩
  simp only [List.length_cons] at hf hs
  have hdx := (List.pairwise_append.1 hd).2.2
  unfold p_slices_insertionSortCmpFunc_Sint_L1
  rw [ltT (by simp), cond_true, ins_L2 (hg x (by simp)) a.length a b KK rfl (by show _ < 1000; omega) (by omega) (fun r hr => hg r (by simp [hr])) hp (fun r hr => hdx r hr x (by simp))]
  simp only [Option.bind_some]
  rw [w64s (by omega)]
  have hpl : (put n x a).length = a.length + 1 := by rw [(put_perm n x a).length_eq]; rfl
  have hperm : (put n x a ++ b).Perm (a ++ x :: b) := ((put_perm n x a).append_right b).trans List.perm_middle.symm
  have := ih (put n x a) fuel (by omega) (by omega) (fun r hr => hg r (hperm.mem_iff.1 hr)) (put_sorted hp fun r hr => hdx r hr x (by simp)) (by
   refine (hperm.pairwise_iff fun hab => Ne.symm hab).2 hd)
  rw [hpl] at this
  rw [List.foldl_cons, ← this]
  congr 1
  simp only [List.length_cons]; omega
theorem fold_put_sorted {n : Nat} : ∀ (f a : List (List Tok)), (a ++ f).Pairwise (fun p q => ArForest.least n p < ArForest.least n q) → f.foldl (fun s x => put n x s) a = a ++ f := by
 intro f
 induction f with
 | nil => intro a _; simp
 | cons x f ih =>
  intro a h
  have h1 := (List.pairwise_append.1 h).2.2
  rw [List.foldl_cons, put_last a fun b hb => h1 b hb x (by simp), ih _ (by simpa using h)]
  simp
theorem bits_some : ∀ m : Fin 13, (p_math_bits_Len KK (IntKind.u64.wrap ((m.val : Nat) : Int))).isSome = true := by decide
theorem sort_put {n : Nat} {f : List (List Tok)} {x : List Tok} (hl : f.length < 12) (hg : ∀ r ∈ f ++ [x], ArForest.Good n r) (hp : f.Pairwise (fun p q => ArForest.least n p < ArForest.least n q)) (hne : ∀ r ∈ f, ArForest.least n r ≠ ArForest.least n x) :
    p_slices_SortFunc_SSint_Sint KK (ef n (f ++ [x])) (fun x0 x1 => p_tour_with_1 KK x0 x1) = some (ef n (put n x f)) := by
 have hlen : (ef n (f ++ [x])).length = f.length + 1 := by rw [ef_len]; simp
 have hd : (f ++ [x]).Pairwise (fun p q => ArForest.least n p ≠ ArForest.least n q) :=
  List.pairwise_append.2 ⟨hp.imp fun h => Nat.ne_of_lt h, by simp, fun a ha b hb => by simp at hb; subst hb; exact hne a ha⟩
 have key : p_slices_insertionSortCmpFunc_Sint KK (ef n (f ++ [x])) 0 ((f.length + 1 : Nat) : Int) (fun x0 x1 => p_tour_with_1 KK x0 x1) = some (ef n (put n x f)) := by
  unfold p_slices_insertionSortCmpFunc_Sint
  rw [show w64 (0 + 1) = ((1 : Nat) : Int) from rfl]
  cases f with
  | nil =>
   have := ins_L1 (n := n) [] [x] KK (by show 0 < 1000; omega) (by simp) (by simpa using hg) (by simp) (by simp)
   simpa [put] using this
  | cons y f =>
   have := ins_L1 (n := n) (f ++ [x]) [y] KK (by simp at hl ⊢; show _ < 1000; omega) (by simp at hl ⊢; omega) (by simpa using hg) (by simp) (by simpa using hd)
   have e : (f ++ [x]).foldl (fun s x => put n x s) [y] = put n x (y :: f) := by
    rw [List.foldl_append, fold_put_sorted f [y] (by simpa using hp)]; rfl
   rw [e] at this
   have e2 : ([y].length + (f ++ [x]).length : Nat) = (y :: f).length + 1 := by simp; omega
   rw [e2] at this
   simpa using this
 unfold p_slices_SortFunc_SSint_Sint
 rw [hlen]
 have hb := bits_some ⟨f.length + 1, by omega⟩
 simp only at hb
 obtain ⟨w, hw⟩ := Option.isSome_iff_exists.1 hb
 rw [hw]
 simp only [Option.bind_some]
 have hpl : (ef n (put n x f)).length = f.length + 1 := by rw [ef_len, (put_perm n x f).length_eq]; rfl
 have : p_slices_pdqsortCmpFunc_Sint KK (ef n (f ++ [x])) 0 ((f.length + 1 : Nat) : Int) w (fun x0 x1 => p_tour_with_1 KK x0 x1) = some (ef n (put n x f)) := by
  unfold p_slices_pdqsortCmpFunc_Sint
  show p_slices_pdqsortCmpFunc_Sint_L1 KK _ _ _ _ _ (999 + 1) = _
  unfold p_slices_pdqsortCmpFunc_Sint_L1
  rw [show w64 (((f.length + 1 : Nat) : Int) - 0) = ((f.length + 1 : Nat) : Int) by rw [w64N] <;> omega, decide_eq_true (p := ((f.length + 1 : Nat) : Int) ≤ 12) (by omega), cond_true, key]
  simp only [Option.bind_some]
  rw [lenN_ (by rw [hpl, hlen])]
 rw [this]
 simp only [Option.bind_some]
 rw [lenN_ (by rw [hpl, hlen])]
theorem tour_with {n : Nat} {f : List (List Tok)} {l : List Tok} {i j : Nat} (hn : n ≤ 12) (hfl : f.length ≤ 12) (hi : i < f.length) (hj : j < f.length) (hne : i ≠ j) (hg : ∀ r ∈ without f i j, ArForest.Good n r) (hp : f.Pairwise (fun p q => ArForest.least n p < ArForest.least n q)) (h : Rn n l)
    (hd : ∀ r ∈ without f i j, ArForest.least n r ≠ ArForest.least n (plain n l)) : p_tour_with KK ⟨n, ef n f⟩ [(i : Int), (j : Int)] [er n l] = some ⟨n, ef n (put n (plain n l) (without f i j))⟩ := by
 unfold p_tour_with
 rw [with_L1 (by show (ef n f).length < 900; rw [ef_len]; omega)]
 simp only [Option.bind_some]
 rw [show keep 0 i j (ef n f) = ef n (without f i j) by unfold ef; rw [keep_map, keep_without hne]]
 have hwl : (without f i j).length < 12 := by
  have := (without_perm f i j hi hj hne).length_eq
  simp at this; omega
 have h2 : p_tour_with_L2 KK [er n l] KK 0 (ef n (without f i j)) = some (ef n (without f i j ++ [plain n l])) := by
  have := loopL (σ := List (List Int)) (ρ := List (List Int)) [er n l] (fun k p s => p_tour_with_L2 KK [er n l] k (p : Int) s) (fun r s => some (s ++ r.map fun _ => er n (plain n l))) (fun p s => s.length ≤ 20 + p)
   (fun k s _ => by simp only [p_tour_with_L2, ltF (Nat.le_refl _), cond_false]; simp)
   (fun k p s y rest hs hlt hx hr ih => by
    simp only [List.length_singleton] at hlt
    have hp0 : p = 0 := by omega
    subst hp0
    simp at hx
    subst hx
    simp only [p_tour_with_L2, List.length_singleton, ltT (show 0 < 1 by omega), cond_true]
    rw [ixN (j := 0) rfl, ring_Plain_rn (by omega) h]
    simp only [Option.bind_some]
    rw [apN (by simp; omega) (by omega), w64s (by omega), ih _ (by simp; omega)]
    simp)
   (n := KK) (s := ef n (without f i j)) (by show 1 < 1000; omega) (by rw [ef_len]; omega)
  simpa [ef] using this
 rw [h2]
 simp only [Option.bind_some]
 have gp := plain_good' h
 rw [sort_put hwl (fun r hr => by
     rcases List.mem_append.1 hr with hr | hr
     ·exact hg r hr
     ·simp at hr; subst hr; exact gp) (by
     unfold without
     exact (hp.sublist (List.eraseIdx_sublist ..)).sublist (List.eraseIdx_sublist ..)) hd]
 simp only [Option.bind_some]
 rw [lenN_ (by rw [ef_len, ef_len, (put_perm n _ _).length_eq]; simp)]
theorem tour_asked {n u v : Nat} {f : List (List Tok)} (h1 : 1 ≤ n) (hn : n ≤ 64) (h : Wf n f) (hu : u < n) (hv : v < n) : p_tour_asked KK ⟨n, ef n f⟩ (u : Int) (v : Int) = some 0 := by
 unfold p_tour_asked
 simp only [tour_Right h1 hn h, tour_in h1 hn hu, tour_in h1 hn hv, Option.bind_some, Bool.not_true, cond_false]
theorem tour_Link {n u v : Nat} {f : List (List Tok)} (h1 : 1 ≤ n) (hn : n ≤ 12) (h : Wf n f) (hu : u < n) (hv : v < n) : p_tour_Link KK ⟨n, ef n f⟩ (u : Int) (v : Int) = some (⟨n, ef n (link n f u v)⟩, lkE f u v) := by
 have hfl := wf_len h
 have hn' : n ≤ 64 := by omega
 unfold p_tour_Link
 simp only [tour_asked h1 hn' h hu hv, tour_place hn' h hu, tour_place hn' h hv, Option.bind_some]
 rw [show ((0 : Int) != 0) = false from rfl, cond_false]
 by_cases hne : place f u = place f v
 ·rw [hne, show (((place f v : Nat) : Int) == ((place f v : Nat) : Int)) = true by simp, cond_true]
  unfold link lkE; simp [hne]
 ·obtain ⟨a, b, k⟩ := lk_of h hu hv hne
  have huv : u ≠ v := by rintro rfl; exact hne rfl
  rw [show (((place f u : Nat) : Int) == ((place f v : Nat) : Int)) = false by simp only [beq_eq_false_iff_ne]; omega, cond_false]
  have ra := good_rg hn' k.ga
  have rb := good_rg hn' k.gb
  have ea : (u : Int) ∈ er n a := (er_mem (good_ok' k.ga) (okV hu)).2 k.ma
  have eb : (v : Int) ∈ er n b := (er_mem (good_ok' k.gb) (okV hv)).2 k.mb
  have la := good_len k.ga
  have lb := good_len k.gb
  have gi : (ef n f)[place f u]? = some (er n a) := by simp [ef, k.ai]
  have gj : (ef n f)[place f v]? = some (er n b) := by simp [ef, k.bj]
  rw [ixN gi, ring_From ra ea]
  simp only [Option.bind_some]
  rw [ixN gj, ring_From rb eb]
  simp only [Option.bind_some]
  rw [show (1 : Int) = ((1 : Nat) : Int) from rfl, slN0 (by rw [trn_len, er_len]; omega), tour_Arc h1 hn' hu hv huv, tour_Arc h1 hn' hv hu huv.symm]
  simp only [Option.bind_some]
  rw [slNl (by rw [trn_len, er_len]; omega), concat2 (by simp [trn_len, er_len]; omega) (by simp)]
  simp only [Option.bind_some]
  have ehd : (trn (er n a) (u : Int)).take 1 = [(u : Int)] := by
   have hlt := List.idxOf_lt_length_of_mem ea
   unfold trn
   rw [List.drop_eq_getElem_cons hlt, List.getElem_idxOf hlt]; simp
  have e : [(trn (er n a) (u : Int)).take 1, [tk n (A u v)], trn (er n b) (v : Int), [tk n (A v u)], (trn (er n a) (u : Int)).drop 1].flatten = er n (joined u v a b) := by
   rw [← er_joined k.ga k.gb hu hv, ehd]; simp
  rw [e, tour_with hn (by omega) k.li k.lj hne k.gw h.sorted k.rn (by
   have hw := link_wf h hu hv
   rw [k.eq] at hw
   intro r hr e
   have h3 := (put_perm n (plain n (joined u v a b)) (without f (place f u) (place f v))).pairwise_iff (R := fun p q : List Tok => ArForest.least n p ≠ ArForest.least n q) (fun hab => Ne.symm hab)
   have h4 := h3.1 (hw.sorted.imp fun h => Nat.ne_of_lt h)
   exact (List.pairwise_cons.1 h4).1 r hr e.symm)]
  simp only [Option.bind_some, k.eq, lkE, if_neg hne]
end Go.Ar.Mm
namespace Go.Ar.Mm
open ArTour ArForest ArWalk ArLeaf ArConn
open ArTour.Tok
def ed (e : E) : Ed := ⟨(e.1 : Int), (e.2 : Int)⟩
theorem make_list (n : Nat) : ef n (alone n) = (List.range n).map fun v : Nat => [(v : Int)] := by
 simp only [ef, alone, List.map_map]
 rfl
theorem r18_Make {n : Nat} (h1 : 1 ≤ n) (hn : n ≤ 64) : p_r18_Make KK (n : Int) = some (⟨n, ef n (alone n)⟩, 0) := by
 have := loopC (σ := List (List Int)) (ρ := List (List Int)) n (fun k j s => p_r18_Make_L1 KK (n : Int) k (j : Int) s) (fun j s => some (s ++ ((List.range n).drop j).map fun v : Nat => [(v : Int)])) (fun j s => s.length = j)
  (fun k s _ => by simp only [p_r18_Make_L1, ltF (Nat.le_refl _), cond_false]; rw [List.drop_eq_nil_of_le (by simp)]; simp)
  (fun k j s hs hj ih => by
   simp only [p_r18_Make_L1, ltT hj, cond_true]
   rw [apN (by simp; omega) (by omega), w64s (by omega), ih _ (by simp [hs])]
   rw [List.drop_eq_getElem_cons (i := j) (by simpa using hj)]
   simp)
  (j := 0) (n := KK) (s := []) (Nat.zero_le _) (by show _ < 1000; omega) rfl
 unfold p_r18_Make
 rw [decide_eq_false (p := (n : Int) < 1) (by omega), cond_false, decide_eq_false (p := (n : Int) > 64) (by omega), cond_false, show (0 : Int) = ((0 : Nat) : Int) from rfl, this, make_list]
 simp
theorem tour_Make {n : Nat} (h1 : 1 ≤ n) (hn : n ≤ 64) : p_tour_Make KK (n : Int) = some (⟨n, ef n (alone n)⟩, 0) := by
 have := loopC (σ := List (List Int)) (ρ := List (List Int)) n (fun k j s => p_tour_Make_L1 KK (n : Int) k (j : Int) s) (fun j s => some (s ++ ((List.range n).drop j).map fun v : Nat => [(v : Int)])) (fun j s => s.length = j)
  (fun k s _ => by simp only [p_tour_Make_L1, ltF (Nat.le_refl _), cond_false]; rw [List.drop_eq_nil_of_le (by simp)]; simp)
  (fun k j s hs hj ih => by
   simp only [p_tour_Make_L1, ltT hj, cond_true]
   rw [apN (by simp; omega) (by omega), w64s (by omega), ih _ (by simp [hs])]
   rw [List.drop_eq_getElem_cons (i := j) (by simpa using hj)]
   simp)
  (j := 0) (n := KK) (s := []) (Nat.zero_le _) (by show _ < 1000; omega) rfl
 unfold p_tour_Make
 rw [tour_sized h1 hn]
 simp only [Option.bind_some, Bool.not_true, cond_false]
 rw [show (0 : Int) = ((0 : Nat) : Int) from rfl, this, make_list]
 simp
theorem of_wf (n : Nat) (l : List E) (h : ∀ e ∈ l, e.1 < n ∧ e.2 < n) : Wf n (ArForest.of n l) := (of_tells n l h).wf
theorem r19_there {n : Nat} {f : List (List Tok)} {es : List E} (h1 : 1 ≤ n) (hn : n ≤ 64) (h : Wf n f) (he : ∀ e ∈ es, e.1 < n ∧ e.2 < n) (hl : es.length < 900) : p_r19_there KK ⟨n, ef n f⟩ (es.map ed) = some 0 := by
 have := loopL (σ := Unit) (ρ := Sum Unit Int) es (fun k j _ => p_r19_there_L1 KK (es.map ed) ⟨n, ef n f⟩ k (j : Int)) (fun _ _ => some (.inl ())) (fun _ _ => True)
     (fun k s _ => by simp only [p_r19_there_L1, List.length_map, ltF (Nat.le_refl _), cond_false])
     (fun k j s y rest _ hlt hx hr ih => by
      have ih := ih () trivial
      have hy := he y (List.mem_of_getElem? hx)
      have hg : (es.map ed)[j]? = some (ed y) := by simp [hx]
      simp only [p_r19_there_L1, List.length_map, ltT hlt, cond_true, ixN hg]
      rw [decide_eq_false (p := (ed y).u < 0) (by simp [ed]), cond_false, decide_eq_false (p := (ed y).u ≥ (n : Int)) (by simp [ed]; omega), cond_false, decide_eq_false (p := (ed y).v < 0) (by simp [ed]), cond_false, decide_eq_false (p := (ed y).v ≥ (n : Int)) (by simp [ed]; omega), cond_false, w64s (by omega)]
      exact ih)
     (n := KK) (s := ()) (by show _ < 1000; omega) trivial
 unfold p_r19_there
 rw [r18_Right h1 hn h]
 simp only [Option.bind_some, Bool.not_true, cond_false]
 rw [show (0 : Int) = ((0 : Nat) : Int) from rfl, this]; rfl
theorem r19_Links_L1 {n : Nat} {es : List E} (h1 : 1 ≤ n) (hn : n ≤ 64) (he : ∀ e ∈ es, e.1 < n ∧ e.2 < n) (hl : es.length < 900) :
    ∀ (rest : List E) (j fuel : Nat) (f : List (List Tok)) (bs : List Bool), es.drop j = rest → j + rest.length = es.length → rest.length < fuel → Wf n f → bs.length = j →
     ∃ bs', p_r19_Links_L1 KK (es.map ed) fuel (j : Int) (n : Int) (ef n f) bs = some ((n : Int), ef n (rest.foldl (fun f e => link n f e.1 e.2) f), bs') := by
 intro rest
 induction rest with
 | nil =>
  intro j fuel f bs hd hj hf _ _
  obtain ⟨fuel, rfl⟩ : ∃ k, fuel = k + 1 := ⟨fuel - 1, by simp at hf; omega⟩
  simp at hj
  unfold p_r19_Links_L1
  simp only [List.length_map, ltF (show es.length ≤ j by omega), cond_false]
  exact ⟨bs, rfl⟩
 | cons e rest ih =>
  intro j fuel f bs hd hj hf hw hb
  obtain ⟨fuel, rfl⟩ : ∃ k, fuel = k + 1 := ⟨fuel - 1, by simp at hf; omega⟩
  simp only [List.length_cons] at hj hf
  have hlt : j < es.length := by omega
  have hdr := List.drop_eq_getElem_cons hlt
  rw [hd] at hdr
  simp only [List.cons.injEq] at hdr
  have hx : es[j]? = some e := by rw [List.getElem?_eq_getElem hlt, hdr.1]
  have hy := he e (List.mem_of_getElem? hx)
  have hg : (es.map ed)[j]? = some (ed e) := by simp [hx]
  unfold p_r19_Links_L1
  simp only [List.length_map, ltT hlt, cond_true, ixN hg, ed, r18_Link h1 hn hw hy.1 hy.2, Option.bind_some]
  rw [apN (by simp; omega) (by omega), w64s (by omega)]
  exact ih (j + 1) fuel (link n f e.1 e.2) _ hdr.2.symm (by omega) (by omega) (link_wf hw hy.1 hy.2) (by simp [hb])
theorem r19_Of {n : Nat} {es : List E} (h1 : 1 ≤ n) (hn : n ≤ 64) (he : ∀ e ∈ es, e.1 < n ∧ e.2 < n) (hl : es.length < 900) : p_r19_Of KK (n : Int) (es.map ed) = some (⟨n, ef n (ArForest.of n es)⟩, 0) := by
 have hw0 := (alone_tells n).wf
 obtain ⟨bs, e⟩ := r19_Links_L1 h1 hn he hl es 0 KK (alone n) [] rfl (by simp) (by show _ < 1000; omega) hw0 rfl
 unfold p_r19_Of p_r19_Links
 rw [r18_Make h1 hn]
 simp only [Option.bind_some]
 rw [show ((0 : Int) != 0) = false from rfl, cond_false, r19_there h1 hn hw0 he hl]
 simp only [Option.bind_some]
 rw [show ((0 : Int) != 0) = false from rfl, cond_false]
 rw [show ((0 : Nat) : Int) = 0 from rfl] at e
 rw [e]
 simp only [Option.bind_some]
 rw [show ((0 : Int) != 0) = false from rfl, cond_false]; rfl
theorem forest_ends {es : List E} (hl : es.length < 900) : p_forest_ends KK (es.map ed) = some (es.flatMap fun e => [(e.1 : Int), (e.2 : Int)]) := by
 have := loopL (σ := List Int) (ρ := List Int) es (fun k j s => p_forest_ends_L1 KK (es.map ed) k (j : Int) s) (fun r s => some (s ++ r.flatMap fun e => [(e.1 : Int), (e.2 : Int)])) (fun j s => s.length = 2 * j)
     (fun k s _ => by simp only [p_forest_ends_L1, List.length_map, ltF (Nat.le_refl _), cond_false]; simp)
     (fun k j s y rest hs hlt hx hr ih => by
      have hg : (es.map ed)[j]? = some (ed y) := by simp [hx]
      simp only [p_forest_ends_L1, List.length_map, ltT hlt, cond_true, ixN hg]
      rw [apN (by simp; omega) (by omega), w64s (by omega), ih _ (by simp; omega)]
      simp [ed])
     (n := KK) (s := []) (by show _ < 1000; omega) rfl
 unfold p_forest_ends
 rw [show (0 : Int) = ((0 : Nat) : Int) from rfl, this]; simp
theorem forest_there {n : Nat} {f : List (List Tok)} {es : List E} (h1 : 1 ≤ n) (hn : n ≤ 64) (h : Wf n f) (he : ∀ e ∈ es, e.1 < n ∧ e.2 < n) (hl : es.length < 400) : p_forest_there KK ⟨n, ef n f⟩ (es.flatMap fun e => [(e.1 : Int), (e.2 : Int)]) = some 0 := by
 unfold p_forest_there
 rw [tour_Right h1 hn h]
 simp only [Option.bind_some, Bool.not_true, cond_false]
 rw [contains_no (by
  have : ∀ es : List E, (es.flatMap fun e => [(e.1 : Int), (e.2 : Int)]).length = 2 * es.length := by
   intro es
   induction es with
   | nil => rfl
   | cons a es ih => simp only [List.flatMap_cons, List.length_append, ih, List.length_cons, List.length_nil]; omega
  rw [this]; omega) fun x hx => by
  obtain ⟨e, hee, hx⟩ := List.mem_flatMap.1 hx
  have := he e hee
  have hb : 0 ≤ x ∧ x < (n : Int) := by
   simp at hx; omega
  unfold p_forest_there_1
  rw [decide_eq_false (p := x < 0) (by omega), cond_false, decide_eq_false (p := x ≥ (n : Int)) (by omega)]]
 rfl
theorem forest_each_L1 {n : Nat} {es : List E} (h1 : 1 ≤ n) (hn : n ≤ 12) (he : ∀ e ∈ es, e.1 < n ∧ e.2 < n) (hl : es.length < 900) :
    ∀ (rest : List E) (j fuel : Nat) (f : List (List Tok)) (bs : List Bool), es.drop j = rest → j + rest.length = es.length → rest.length < fuel → Wf n f → bs.length = j →
     ∃ bs', p_forest_each_L1 KK (es.map ed) (fun x0 x1 x2 => p_tour_Link KK x0 x1 x2) fuel (j : Int) (n : Int) (ef n f) bs = some ((n : Int), ef n (rest.foldl (fun f e => link n f e.1 e.2) f), bs') := by
 intro rest
 induction rest with
 | nil =>
  intro j fuel f bs hd hj hf _ _
  obtain ⟨fuel, rfl⟩ : ∃ k, fuel = k + 1 := ⟨fuel - 1, by simp at hf; omega⟩
  simp at hj
  unfold p_forest_each_L1
  simp only [List.length_map, ltF (show es.length ≤ j by omega), cond_false]
  exact ⟨bs, rfl⟩
 | cons e rest ih =>
  intro j fuel f bs hd hj hf hw hb
  obtain ⟨fuel, rfl⟩ : ∃ k, fuel = k + 1 := ⟨fuel - 1, by simp at hf; omega⟩
  simp only [List.length_cons] at hj hf
  have hlt : j < es.length := by omega
  have hdr := List.drop_eq_getElem_cons hlt
  rw [hd] at hdr
  simp only [List.cons.injEq] at hdr
  have hx : es[j]? = some e := by rw [List.getElem?_eq_getElem hlt, hdr.1]
  have hy := he e (List.mem_of_getElem? hx)
  have hg : (es.map ed)[j]? = some (ed e) := by simp [hx]
  unfold p_forest_each_L1
  simp only [List.length_map, ltT hlt, cond_true, ixN hg, ed, tour_Link h1 hn hw hy.1 hy.2, Option.bind_some]
  rw [apN (by simp; omega) (by omega), w64s (by omega)]
  exact ih (j + 1) fuel (link n f e.1 e.2) _ hdr.2.symm (by omega) (by omega) (link_wf hw hy.1 hy.2) (by simp [hb])
theorem forest_Of {n : Nat} {es : List E} (h1 : 1 ≤ n) (hn : n ≤ 12) (he : ∀ e ∈ es, e.1 < n ∧ e.2 < n) (hl : es.length < 400) : p_forest_Of KK (n : Int) (es.map ed) = some (⟨n, ef n (ArForest.of n es)⟩, 0) := by
 have hw0 := (alone_tells n).wf
 obtain ⟨bs, e⟩ := forest_each_L1 h1 hn he (by omega) es 0 KK (alone n) [] rfl (by simp) (by show _ < 1000; omega) hw0 rfl
 unfold p_forest_Of p_forest_Links p_forest_each
 rw [tour_Make h1 (by omega)]
 simp only [Option.bind_some]
 rw [show ((0 : Int) != 0) = false from rfl, cond_false, forest_ends (by omega)]
 simp only [Option.bind_some]
 rw [forest_there h1 (by omega) hw0 he hl]
 simp only [Option.bind_some]
 rw [show ((0 : Int) != 0) = false from rfl, cond_false]
 rw [show ((0 : Nat) : Int) = 0 from rfl] at e
 rw [e]
 simp only [Option.bind_some]
 rw [show ((0 : Int) != 0) = false from rfl, cond_false]; rfl
end Go.Ar.Mm
namespace Go.Ar.Mm
open ArTour ArForest ArWalk ArLeaf ArConn
def gt (c : List Nat) (v : Nat) : Nat := c.getD v 0
def relax (c : List Nat) (e : E) : List Nat := if gt c e.1 = gt c e.2 then c else (c.set e.1 (min (gt c e.1) (gt c e.2))).set e.2 (min (gt c e.1) (gt c e.2))
theorem gt_of {c : List Nat} {v : Nat} (h : v < c.length) : c[v]? = some (gt c v) := by
 unfold gt; rw [List.getD_eq_getElem?_getD, List.getElem?_eq_getElem h]; rfl
theorem gt_set {c : List Nat} {u v x : Nat} (h : u < c.length) : gt (c.set u x) v = if u = v then x else gt c v := by
 unfold gt
 rw [List.getD_eq_getElem?_getD, List.getD_eq_getElem?_getD]
 by_cases e : u = v
 ·subst e; rw [List.getElem?_set_self h, if_pos rfl]; rfl
 ·rw [List.getElem?_set_ne e, if_neg e]
theorem gt_relax {c : List Nat} {e : E} (h1 : e.1 < c.length) (h2 : e.2 < c.length) (v : Nat) : gt (relax c e) v = if v = e.1 ∨ v = e.2 then min (gt c e.1) (gt c e.2) else gt c v := by
 unfold relax
 split
 ·rename_i h
  split
  ·rename_i hv
   rcases hv with rfl | rfl <;> omega
  ·rfl
 ·rw [gt_set (by simpa using h2), gt_set h1]
  by_cases a : v = e.1
  ·subst a; simp
  ·by_cases b : v = e.2
   ·subst b; simp
   ·rw [if_neg (Ne.symm b), if_neg (Ne.symm a), if_neg (by simp [a, b])]
theorem relax_len (c : List Nat) (e : E) : (relax c e).length = c.length := by unfold relax; split <;> simp
def sm (c : List Nat) : Nat := c.sum
theorem sum_set {c : List Nat} : ∀ {u x : Nat}, u < c.length → (c.set u x).sum + gt c u = c.sum + x := by
 induction c with
 | nil => intro u x h; simp at h
 | cons a c ih =>
  intro u x h
  cases u with
  | zero => simp [gt]; omega
  | succ u =>
   have := ih (u := u) (x := x) (by simpa using h)
   simp only [List.set_cons_succ, List.sum_cons, gt, List.getD_cons_succ] at *
   omega
theorem sm_relax {c : List Nat} {e : E} (h1 : e.1 < c.length) (h2 : e.2 < c.length) : sm (relax c e) ≤ sm c ∧ (gt c e.1 ≠ gt c e.2 → sm (relax c e) < sm c) := by
 unfold relax sm
 split
 ·rename_i h; exact ⟨Nat.le_refl _, fun hh => absurd h hh⟩
 ·rename_i h
  have s1 := sum_set (x := min (gt c e.1) (gt c e.2)) h1
  have s2 := sum_set (c := c.set e.1 (min (gt c e.1) (gt c e.2))) (u := e.2) (x := min (gt c e.1) (gt c e.2)) (by simpa using h2)
  rw [gt_set h1, if_neg (fun hh => h (by rw [hh]))] at s2
  omega
structure Lb (n : Nat) (es : List E) (c : List Nat) : Prop where
 len : c.length = n
 le : ∀ v, v < n → gt c v ≤ v
 conn : ∀ v, v < n → Conn es v (gt c v)
theorem Lb.relax {n : Nat} {es : List E} {c : List Nat} {e : E} (h : Lb n es c) (he : e ∈ es) (h1 : e.1 < n) (h2 : e.2 < n) : Lb n es (relax c e) := by
 have l1 : e.1 < c.length := by rw [h.len]; exact h1
 have l2 : e.2 < c.length := by rw [h.len]; exact h2
 have hE : Conn es e.1 e.2 := .edge he
 have c1 := h.conn _ h1
 have c2 := h.conn _ h2
 refine ⟨(relax_len _ _).trans h.len, fun v hv => ?_, fun v hv => ?_⟩
 ·rw [gt_relax l1 l2]
  split
  ·rename_i hh
   have := h.le _ h1; have := h.le _ h2
   rcases hh with rfl | rfl <;> omega
  ·exact h.le v hv
 ·rw [gt_relax l1 l2]
  split
  ·rename_i hh
   rcases Nat.le_total (gt c e.1) (gt c e.2) with hle | hle
   ·rw [Nat.min_eq_left hle]
    rcases hh with rfl | rfl
    ·exact c1
    ·exact hE.symm.trans c1
   ·rw [Nat.min_eq_right hle]
    rcases hh with rfl | rfl
    ·exact hE.trans c2
    ·exact c2
  ·exact h.conn v hv
def pass : List E → List Nat → Bool × List Nat
 | [], c => (false, c)
 | e :: es, c => let r := pass es (relax c e); (decide (gt c e.1 ≠ gt c e.2) || r.1, r.2)
theorem pass_lb {n : Nat} {es : List E} : ∀ (l : List E) (c : List Nat), Lb n es c → (∀ e ∈ l, e ∈ es ∧ e.1 < n ∧ e.2 < n) → Lb n es (pass l c).2 ∧ sm (pass l c).2 ≤ sm c ∧ ((pass l c).1 = true → sm (pass l c).2 < sm c) ∧ ((pass l c).1 = false → (pass l c).2 = c ∧ ∀ e ∈ l, gt c e.1 = gt c e.2) := by
 intro l
 induction l with
 | nil => intro c h _; exact ⟨h, Nat.le_refl _, by simp [pass], by simp [pass]⟩
 | cons e l ih =>
  intro c h hl
  obtain ⟨he, h1, h2⟩ := hl e (by simp)
  obtain ⟨i1, i2, i3, i4⟩ := ih (relax c e) (h.relax he h1 h2) fun x hx => hl x (by simp [hx])
  obtain ⟨s1, s2⟩ := sm_relax (c := c) (e := e) (by rw [h.len]; exact h1) (by rw [h.len]; exact h2)
  refine ⟨i1, by simp only [pass]; omega, ?_, ?_⟩
  ·simp only [pass, Bool.or_eq_true, decide_eq_true_eq]
   rintro (hh | hh)
   ·have := s2 hh; omega
   ·have := i3 hh; omega
  ·simp only [pass, Bool.or_eq_false_iff, decide_eq_false_iff_not, Decidable.not_not]
   rintro ⟨hh, hf⟩
   obtain ⟨j1, j2⟩ := i4 hf
   have e0 : ArConn.E := e
   have er : relax c e = c := by unfold Mm.relax; rw [if_pos hh]
   rw [er] at j1 j2
   refine ⟨by rw [er]; exact j1, fun x hx => ?_⟩
   rcases List.mem_cons.1 hx with rfl | hx
   ·exact hh
   ·exact j2 x hx
theorem cs_get {c : List Nat} {v : Nat} (h : v < c.length) : (cs c)[v]? = some ((gt c v : Nat) : Int) := by
 simp [cs, gt_of h]
theorem cs_set (c : List Nat) (v x : Nat) : (cs c).set v (x : Int) = cs (c.set v x) := by simp [cs, List.map_set]
theorem classes_L3 {n : Nat} {es : List E} (he : ∀ e ∈ es, e.1 < n ∧ e.2 < n) (hl : es.length < 900) :
    ∀ (rest : List E) (j fuel : Nat) (b : Bool) (c : List Nat), es.drop j = rest → j + rest.length = es.length → rest.length < fuel → c.length = n →
     p_r19_Classes_L3 KK (es.map ed) (n : Int) fuel b (j : Int) (cs c) = some (b || (pass rest c).1, cs (pass rest c).2) := by
 intro rest
 induction rest with
 | nil =>
  intro j fuel b c hd hj hf _
  obtain ⟨fuel, rfl⟩ : ∃ k, fuel = k + 1 := ⟨fuel - 1, by simp at hf; omega⟩
  simp at hj
  unfold p_r19_Classes_L3
  simp only [List.length_map, ltF (show es.length ≤ j by omega), cond_false, pass]
  simp
 | cons e rest ih =>
  intro j fuel b c hd hj hf hc
  obtain ⟨fuel, rfl⟩ : ∃ k, fuel = k + 1 := ⟨fuel - 1, by simp at hf; omega⟩
  simp only [List.length_cons] at hj hf
  have hlt : j < es.length := by omega
  have hdr := List.drop_eq_getElem_cons hlt
  rw [hd] at hdr
  simp only [List.cons.injEq] at hdr
  have hx : es[j]? = some e := by rw [List.getElem?_eq_getElem hlt, hdr.1]
  obtain ⟨y1, y2⟩ := he e (List.mem_of_getElem? hx)
  have hg : (es.map ed)[j]? = some (ed e) := by simp [hx]
  have g1 := cs_get (c := c) (v := e.1) (by omega)
  have g2 := cs_get (c := c) (v := e.2) (by omega)
  have hcl : (cs c).length = n := by rw [cs_len]; exact hc
  unfold p_r19_Classes_L3
  simp only [List.length_map, ltT hlt, cond_true, ixN hg]
  rw [show (ed e).u = (e.1 : Int) from rfl, show (ed e).v = (e.2 : Int) from rfl, decide_eq_false (p := (e.1 : Int) < 0) (by omega), cond_false, decide_eq_false (p := (e.2 : Int) < 0) (by omega), cond_false, decide_eq_false (p := (e.1 : Int) ≥ (n : Int)) (by omega), cond_false, decide_eq_false (p := (e.2 : Int) ≥ (n : Int)) (by omega), cond_false]
  rw [bdN (by omega), gtN g1, bdN (by omega), gtN g2]
  simp only [pass]
  by_cases h : gt c e.1 = gt c e.2
  ·rw [h, show (((gt c e.2 : Nat) : Int) == ((gt c e.2 : Nat) : Int)) = true by simp, cond_true]
   simp only [Option.bind_some]
   have er : relax c e = c := by unfold relax; rw [if_pos h]
   rw [w64s (by omega), ih (j + 1) fuel b c hdr.2.symm (by omega) (by omega) hc, er]
   simp
  ·rw [show (((gt c e.1 : Nat) : Int) == ((gt c e.2 : Nat) : Int)) = false by simp only [beq_eq_false_iff_ne]; omega, cond_false]
   rw [bdN (by omega), gtN g1, bdN (by omega), gtN g2, bdN (by omega), gtN g1, bdN (by omega)]
   have hm : (if ((gt c e.2 : Nat) : Int) < ((gt c e.1 : Nat) : Int) then ((gt c e.2 : Nat) : Int) else ((gt c e.1 : Nat) : Int)) = ((min (gt c e.1) (gt c e.2) : Nat) : Int) := by split <;> omega
   rw [hm, cs_set, gtN (cs_get (v := e.2) (by simp; omega)), cs_set]
   simp only [Option.bind_some]
   have er : relax c e = (c.set e.1 (min (gt c e.1) (gt c e.2))).set e.2 (min (gt c e.1) (gt c e.2)) := by unfold relax; rw [if_neg h]
   rw [w64s (by omega), ← er, ih (j + 1) fuel true (relax c e) hdr.2.symm (by omega) (by omega) (by rw [relax_len]; exact hc)]
   simp [h]
theorem classes_L2 {n : Nat} {es : List E} (he : ∀ e ∈ es, e.1 < n ∧ e.2 < n) (hl : es.length < 900) :
    ∀ (m fuel : Nat) (c : List Nat), sm c ≤ m → m + 1 < fuel → Lb n es c → ∃ c', p_r19_Classes_L2 KK (es.map ed) (n : Int) fuel true (cs c) = some (cs c') ∧ Lb n es c' ∧ ∀ e ∈ es, gt c' e.1 = gt c' e.2 := by
 intro m
 induction m with
 | zero =>
  intro fuel c hm hf h
  obtain ⟨fuel, rfl⟩ : ∃ k, fuel = k + 2 := ⟨fuel - 2, by omega⟩
  obtain ⟨p1, p2, p3, p4⟩ := pass_lb es c h fun e hh => ⟨hh, he e hh⟩
  have hb : (pass es c).1 = false := by
   cases hh : (pass es c).1
   ·rfl
   ·have := p3 hh; omega
  unfold p_r19_Classes_L2
  rw [cond_true, show (0 : Int) = ((0 : Nat) : Int) from rfl, classes_L3 he hl es 0 KK false c rfl (by simp) (by show _ < 1000; omega) h.len]
  simp only [Option.bind_some, hb, Bool.or_self]
  unfold p_r19_Classes_L2
  rw [cond_false]
  obtain ⟨q1, q2⟩ := p4 hb
  exact ⟨c, by rw [q1], h, q2⟩
 | succ m ih =>
  intro fuel c hm hf h
  obtain ⟨fuel, rfl⟩ : ∃ k, fuel = k + 2 := ⟨fuel - 2, by omega⟩
  obtain ⟨p1, p2, p3, p4⟩ := pass_lb es c h fun e hh => ⟨hh, he e hh⟩
  unfold p_r19_Classes_L2
  rw [cond_true, show (0 : Int) = ((0 : Nat) : Int) from rfl, classes_L3 he hl es 0 KK false c rfl (by simp) (by show _ < 1000; omega) h.len]
  simp only [Option.bind_some, Bool.false_or]
  cases hb : (pass es c).1
  ·unfold p_r19_Classes_L2
   rw [cond_false]
   obtain ⟨q1, q2⟩ := p4 hb
   exact ⟨c, by rw [q1], h, q2⟩
  ·have := p3 hb
   exact ih (fuel + 1) (pass es c).2 (by omega) (by omega) p1
theorem sum_range_le (n : Nat) (h : n ≤ 12) : (List.range n).sum ≤ 66 := by
 have : ∀ m : Fin 13, (List.range m.val).sum ≤ 66 := by decide
 exact this ⟨n, by omega⟩
theorem r19_Classes {n : Nat} {es : List E} (hn : n ≤ 12) (he : ∀ e ∈ es, e.1 < n ∧ e.2 < n) (hl : es.length < 900) : p_r19_Classes KK (n : Int) (es.map ed) = some ((List.range n).map fun v => ((lab es v : Nat) : Int)) := by
 have h1 : p_r19_Classes_L1 KK (n : Int) KK 0 [] = some (cs (List.range n)) := by
  have := loopC (σ := List Int) (ρ := List Int) n (fun k j s => p_r19_Classes_L1 KK (n : Int) k (j : Int) s) (fun j s => some (s ++ cs ((List.range n).drop j))) (fun j s => s.length = j)
   (fun k s _ => by simp only [p_r19_Classes_L1, ltF (Nat.le_refl _), cond_false]; rw [List.drop_eq_nil_of_le (by simp)]; simp [cs])
   (fun k j s hs hj ih => by
    simp only [p_r19_Classes_L1, ltT hj, cond_true]
    rw [apN (by simp; omega) (by omega), w64s (by omega), ih _ (by simp [hs])]
    rw [List.drop_eq_getElem_cons (i := j) (by simpa using hj)]
    simp [cs])
   (j := 0) (n := KK) (s := []) (Nat.zero_le _) (by show _ < 1000; omega) rfl
  simpa using this
 have hb : Lb n es (List.range n) := ⟨by simp, fun v hv => by unfold gt; rw [List.getD_eq_getElem?_getD]; simp [hv], fun v hv => by
  have : gt (List.range n) v = v := by unfold gt; rw [List.getD_eq_getElem?_getD]; simp [hv]
  rw [this]; exact .refl _⟩
 obtain ⟨c, e1, e2, e3⟩ := classes_L2 he hl (sm (List.range n)) KK (List.range n) (Nat.le_refl _) (by have := sum_range_le n hn; unfold sm; show _ < 1000; omega) hb
 unfold p_r19_Classes
 rw [h1]
 simp only [Option.bind_some]
 rw [e1]
 simp only [Option.bind_some]
 congr 1
 have hu := lab_unique es (gt c) n e2.conn e2.le fun e hh => ⟨(he e hh).1, (he e hh).2, e3 e hh⟩
 refine List.ext_getElem? fun v => ?_
 rcases Nat.lt_or_ge v n with hv | hv
 ·rw [cs_get (by rw [e2.len]; exact hv), hu v hv]
  simp [hv]
 ·rw [List.getElem?_eq_none (by rw [cs_len, e2.len]; exact hv), List.getElem?_eq_none (by simpa using hv)]
theorem of_len {n : Nat} {es : List E} (he : ∀ e ∈ es, e.1 < n ∧ e.2 < n) : (ArForest.of n es).length = classes n es := by
 have h1 := (of_tells n es he).len
 have h2 := classes_joins n es [] he
 rw [List.nil_append, classes_nil] at h2
 omega
end Go.Ar.Mm
namespace Go.Ar.Mm
open ArTour ArForest ArWalk ArLeaf ArConn
theorem tops : ∀ m : Fin 13, 1 ≤ m.val → p_level_Top KK ((m.val : Nat) : Int) = p_r21_Top KK ((m.val : Nat) : Int) ∧ (p_r21_Top KK ((m.val : Nat) : Int)).isSome = true := by decide +kernel
theorem top_of {n : Nat} (h1 : 1 ≤ n) (hn : n ≤ 12) : ∃ t : Int, p_level_Top KK (n : Int) = some t ∧ p_r21_Top KK (n : Int) = some t := by
 obtain ⟨a, b⟩ := tops ⟨n, by omega⟩ h1
 obtain ⟨t, ht⟩ := Option.isSome_iff_exists.1 b
 exact ⟨t, a.trans ht, ht⟩
def chk1 (top n : Int) (t : Ti) : Prop := 0 ≤ t.u ∧ t.u < t.v ∧ t.v < n ∧ 0 ≤ t.level ∧ t.level ≤ top
def chk2 (p : Option Ti) (t : Ti) : Prop := match p with | none => True | some p => p.u < t.u ∨ (p.u = t.u ∧ p.v < t.v)
instance (top n : Int) (t : Ti) : Decidable (chk1 top n t) := by unfold chk1; infer_instance
instance (p : Option Ti) (t : Ti) : Decidable (chk2 p t) := by unfold chk2; split <;> infer_instance
def okL (top n : Int) : Option Ti → List Ti → Bool
 | _, [] => true
 | p, t :: l => decide (chk1 top n t ∧ chk2 p t) && okL top n (some t) l
theorem okL_bad {top n : Int} {p : Option Ti} {t : Ti} {l : List Ti} (h : ¬ (chk1 top n t ∧ chk2 p t)) : okL top n p (t :: l) = false := by unfold okL; simp [h]
theorem okL_good {top n : Int} {p : Option Ti} {t : Ti} {l : List Ti} (h : chk1 top n t ∧ chk2 p t) : okL top n p (t :: l) = okL top n (some t) l := by
 conv => lhs; unfold okL
 simp [h]
def prv (l : List Ti) (j : Nat) : Option Ti := if j = 0 then none else l[j - 1]?
theorem cmp_Or (a b : Int) : p_cmp_Or_int KK [a, b] = some (if a ≠ 0 then a else b) := by
 have h : p_cmp_Or_int_L1 KK [a, b] (997 + 1 + 1 + 1) 0 = if a ≠ 0 then some (.inr a) else if b ≠ 0 then some (.inr b) else some (.inl ()) := by
  unfold p_cmp_Or_int_L1
  rw [show decide ((0 : Int) < (([a, b].length : Nat) : Int)) = true from rfl, cond_true, ix0]
  by_cases ha : a = 0
  ·subst ha
   rw [show ((0 : Int) != 0) = false from rfl, cond_false]
   unfold p_cmp_Or_int_L1
   rw [show w64 (0 + 1) = ((1 : Nat) : Int) from rfl, show decide (((1 : Nat) : Int) < (([0, b].length : Nat) : Int)) = true from rfl, cond_true, ixN (j := 1) rfl]
   by_cases hb : b = 0
   ·subst hb
    rw [show ((0 : Int) != 0) = false from rfl, cond_false]
    unfold p_cmp_Or_int_L1
    rfl
   ·rw [show (b != 0) = true by simpa using hb, cond_true]; simp [hb]
  ·rw [show (a != 0) = true by simpa using ha, cond_true]; simp [ha]
 unfold p_cmp_Or_int
 rw [show KK = 997 + 1 + 1 + 1 from rfl, h]
 by_cases ha : a = 0
 ·by_cases hb : b = 0
  ·simp [ha, hb]
  ·simp [ha, hb]
 ·simp [ha]
theorem level_compare (p t : Ti) : ∃ r, p_level_compare KK p t = some r ∧ (0 ≤ r ↔ ¬ chk2 (some p) t) := by
 unfold p_level_compare
 rw [cmp_Compare, cmp_Compare]
 simp only [Option.bind_some]
 rw [cmp_Or]
 refine ⟨_, rfl, ?_⟩
 unfold chk2
 simp only
 by_cases h1 : p.u < t.u
 ·simp [h1]
 ·by_cases h2 : t.u < p.u
  ·rw [if_neg h1, if_pos h2]; simp; omega
  ·rw [if_neg h1, if_neg h2]
   by_cases h3 : p.v < t.v
   ·simp [h3]; omega
   ·by_cases h4 : t.v < p.v
    ·rw [if_neg h3, if_pos h4]; simp; omega
    ·rw [if_neg h3, if_neg h4]; simp; omega
theorem prv_succ {l : List Ti} {j : Nat} {t : Ti} (h : l[j]? = some t) : prv l (j + 1) = some t := by unfold prv; rw [if_neg (by omega)]; simpa using h
theorem level_L1 {g : Gr} {top : Int} (hl : g.ties.length < 900) : ∀ (rest : List Ti) (j fuel : Nat), g.ties.drop j = rest → j + rest.length = g.ties.length → rest.length < fuel →
    p_level_Right_L1 KK g fuel top (j : Int) = some (if okL top g.n (prv g.ties j) rest then .inl () else .inr false) := by
 intro rest
 induction rest with
 | nil =>
  intro j fuel hd hj hf
  obtain ⟨fuel, rfl⟩ : ∃ k, fuel = k + 1 := ⟨fuel - 1, by simp at hf; omega⟩
  simp at hj
  unfold p_level_Right_L1
  rw [ltF (show g.ties.length ≤ j by omega), cond_false]; rfl
 | cons t rest ih =>
  intro j fuel hd hj hf
  obtain ⟨fuel, rfl⟩ : ∃ k, fuel = k + 1 := ⟨fuel - 1, by simp at hf; omega⟩
  simp only [List.length_cons] at hj hf
  have hlt : j < g.ties.length := by omega
  have hdr := List.drop_eq_getElem_cons hlt
  rw [hd] at hdr
  simp only [List.cons.injEq] at hdr
  have hx : g.ties[j]? = some t := by rw [List.getElem?_eq_getElem hlt, hdr.1]
  have ih := ih (j + 1) fuel hdr.2.symm (by omega) (by omega)
  rw [prv_succ hx] at ih
  unfold p_level_Right_L1
  rw [ltT hlt, cond_true, ixN hx]
  by_cases c1 : t.u < 0
  ·rw [decide_eq_true c1, cond_true, okL_bad (by unfold chk1; omega)]; rfl
  rw [decide_eq_false c1, cond_false]
  by_cases c2 : t.u ≥ t.v
  ·rw [decide_eq_true c2, cond_true, okL_bad (by unfold chk1; omega)]; rfl
  rw [decide_eq_false c2, cond_false]
  by_cases c3 : t.v ≥ g.n
  ·rw [decide_eq_true c3, cond_true, okL_bad (by unfold chk1; omega)]; rfl
  rw [decide_eq_false c3, cond_false]
  by_cases c4 : t.level < 0
  ·rw [decide_eq_true c4, cond_true, okL_bad (by unfold chk1; omega)]; rfl
  rw [decide_eq_false c4, cond_false]
  by_cases c5 : t.level > top
  ·rw [decide_eq_true c5, cond_true, okL_bad (by unfold chk1; omega)]; rfl
  rw [decide_eq_false c5, cond_false]
  have hc1 : chk1 top g.n t := by unfold chk1; omega
  cases j with
  | zero =>
   rw [show decide (((0 : Nat) : Int) > 0) = false from rfl, cond_false, w64s (by omega), ih, okL_good ⟨hc1, by simp [prv, chk2]⟩]
  | succ j =>
   have hp : g.ties[j]? = some g.ties[j] := List.getElem?_eq_getElem (by omega)
   rw [decide_eq_true (p := ((j + 1 : Nat) : Int) > 0) (by omega), cond_true, show w64 (((j + 1 : Nat) : Int) - 1) = (j : Int) by rw [w64N] <;> omega, ixN hp]
   obtain ⟨r, hr1, hr2⟩ := level_compare g.ties[j] t
   rw [hr1]
   simp only [Option.bind_some]
   rw [prv_succ hp]
   by_cases c6 : chk2 (some g.ties[j]) t
   ·rw [decide_eq_false (p := r ≥ 0) (fun hh => (hr2.1 hh) c6), cond_false, w64s (by omega), ih, okL_good ⟨hc1, c6⟩]
   ·rw [decide_eq_true (p := r ≥ 0) (hr2.2 c6), cond_true, okL_bad (fun hh => c6 hh.2)]; rfl
def treesOf (l : List Ti) : List Ed := (l.filter (·.tree)).map fun t => ⟨t.u, t.v⟩
theorem r21_L1 {g : Gr} {top : Int} (hl : g.ties.length < 900) (ht : p_r21_Top KK g.n = some top) : ∀ (rest : List Ti) (j fuel : Nat) (acc : List Ed), g.ties.drop j = rest → j + rest.length = g.ties.length → rest.length < fuel → acc.length ≤ j →
    p_r21_Right_L1 KK g fuel (j : Int) acc = some (if okL top g.n (prv g.ties j) rest then .inl (acc ++ treesOf rest) else .inr false) := by
 intro rest
 induction rest with
 | nil =>
  intro j fuel acc hd hj hf ha
  obtain ⟨fuel, rfl⟩ : ∃ k, fuel = k + 1 := ⟨fuel - 1, by simp at hf; omega⟩
  simp at hj
  unfold p_r21_Right_L1
  rw [ltF (show g.ties.length ≤ j by omega), cond_false]; simp [okL, treesOf]
 | cons t rest ih =>
  intro j fuel acc hd hj hf ha
  obtain ⟨fuel, rfl⟩ : ∃ k, fuel = k + 1 := ⟨fuel - 1, by simp at hf; omega⟩
  simp only [List.length_cons] at hj hf
  have hlt : j < g.ties.length := by omega
  have hdr := List.drop_eq_getElem_cons hlt
  rw [hd] at hdr
  simp only [List.cons.injEq] at hdr
  have hx : g.ties[j]? = some t := by rw [List.getElem?_eq_getElem hlt, hdr.1]
  have ih := fun acc' (ha' : acc'.length ≤ j + 1) => ih (j + 1) fuel acc' hdr.2.symm (by omega) (by omega) ha'
  simp only [prv_succ hx] at ih
  unfold p_r21_Right_L1
  rw [ltT hlt, cond_true, ixN hx]
  by_cases c1 : t.u < 0
  ·rw [decide_eq_true c1, cond_true, okL_bad (by unfold chk1; omega)]; rfl
  rw [decide_eq_false c1, cond_false]
  by_cases c2 : t.u ≥ t.v
  ·rw [decide_eq_true c2, cond_true, okL_bad (by unfold chk1; omega)]; rfl
  rw [decide_eq_false c2, cond_false]
  by_cases c3 : t.v ≥ g.n
  ·rw [decide_eq_true c3, cond_true, okL_bad (by unfold chk1; omega)]; rfl
  rw [decide_eq_false c3, cond_false]
  by_cases c4 : t.level < 0
  ·rw [decide_eq_true c4, cond_true, okL_bad (by unfold chk1; omega)]; rfl
  rw [decide_eq_false c4, cond_false, ht]
  simp only [Option.bind_some]
  by_cases c5 : t.level > top
  ·rw [decide_eq_true c5, cond_true, okL_bad (by unfold chk1; omega)]; rfl
  rw [decide_eq_false c5, cond_false]
  have hc1 : chk1 top g.n t := by unfold chk1; omega
  have fin : ∀ X, X = (bif t.tree then (apP 16 acc.length [(Ed.mk t.u t.v)].length (p_r21_Right_L1 KK g fuel (w64 ((j : Int) + 1)) (acc ++ [(Ed.mk t.u t.v)]))) else p_r21_Right_L1 KK g fuel (w64 ((j : Int) + 1)) acc) → chk2 (prv g.ties j) t →
      X = some (if okL top g.n (prv g.ties j) (t :: rest) = true then .inl (acc ++ treesOf (t :: rest)) else .inr false) := by
   intro X hX c6
   rw [hX, okL_good ⟨hc1, c6⟩]
   cases htr : t.tree
   ·rw [cond_false, w64s (by omega), ih acc (by omega)]
    simp [treesOf, htr]
   ·rw [cond_true, apN (by simp; omega) (by omega), w64s (by omega), ih _ (by simp; omega)]
    simp [treesOf, htr]
  cases j with
  | zero =>
   rw [show decide (((0 : Nat) : Int) > 0) = false from rfl, cond_false]
   exact fin _ rfl (by simp [prv, chk2])
  | succ j =>
   have hp : g.ties[j]? = some g.ties[j] := List.getElem?_eq_getElem (by omega)
   have hw : w64 (((j + 1 : Nat) : Int) - 1) = (j : Int) := by rw [w64N] <;> omega
   rw [decide_eq_true (p := ((j + 1 : Nat) : Int) > 0) (by omega), cond_true, hw, ixN hp]
   have hpv := prv_succ hp
   have bad : ¬ chk2 (prv g.ties (j + 1)) t → some (Sum.inr false) = some (if okL top g.n (prv g.ties (j + 1)) (t :: rest) = true then Sum.inl (acc ++ treesOf (t :: rest)) else Sum.inr false) := by
    intro c6
    rw [okL_bad (fun hh => c6 hh.2)]; rfl
   by_cases d1 : g.ties[j].u > t.u
   ·rw [decide_eq_true d1, cond_true]
    exact bad (by rw [hpv]; unfold chk2; simp only; omega)
   ·rw [decide_eq_false d1, cond_false, ixN hp]
    by_cases d2 : g.ties[j].u = t.u
    ·rw [d2, show (t.u == t.u) = true by simp, cond_true, ixN hp]
     by_cases d3 : g.ties[j].v ≥ t.v
     ·rw [decide_eq_true d3, cond_true]
      exact bad (by rw [hpv]; unfold chk2; simp only; omega)
     ·rw [decide_eq_false d3, cond_false]
      exact fin _ rfl (by rw [hpv]; unfold chk2; simp only; omega)
    ·rw [show (g.ties[j].u == t.u) = false by simpa using d2, cond_false]
     exact fin _ rfl (by rw [hpv]; unfold chk2; simp only; omega)
def treesAt (a : Int) (l : List Ti) : List Ed := (l.filter fun t => t.tree && decide (t.level ≥ a)).map fun t => ⟨t.u, t.v⟩
theorem level_trees {g : Gr} {a : Int} (hl : g.ties.length < 900) : p_level_trees KK g a = some (treesAt a g.ties) := by
 have := loopL (σ := List Ed) (ρ := List Ed) g.ties (fun k j s => p_level_trees_L1 KK g a k (j : Int) s) (fun r s => some (s ++ treesAt a r)) (fun j s => s.length ≤ j)
     (fun k s _ => by simp only [p_level_trees_L1, ltF (Nat.le_refl _), cond_false]; simp [treesAt])
     (fun k j s y rest hs hlt hx hr ih => by
      simp only [p_level_trees_L1, ltT hlt, cond_true, ixN hx]
      cases hy : y.tree
      ·rw [cond_false, w64s (by omega), ih s (by omega)]; simp [treesAt, hy]
      ·rw [cond_true]
       by_cases hh : y.level ≥ a
       ·rw [decide_eq_true hh, cond_true, apN (by simp; omega) (by omega), w64s (by omega), ih _ (by simp; omega)]; simp [treesAt, hy, hh]
       ·rw [decide_eq_false hh, cond_false, w64s (by omega), ih s (by omega)]; simp [treesAt, hy, hh])
     (n := KK) (s := []) (by show _ < 1000; omega) (by simp)
 unfold p_level_trees
 rw [show (0 : Int) = ((0 : Nat) : Int) from rfl, this]; simp
theorem r21_Trees {g : Gr} {a : Int} (hl : g.ties.length < 900) : p_r21_Trees KK g a = some (treesAt a g.ties) := by
 have := loopL (σ := List Ed) (ρ := List Ed) g.ties (fun k j s => p_r21_Trees_L1 KK g a k (j : Int) s) (fun r s => some (s ++ treesAt a r)) (fun j s => s.length ≤ j)
     (fun k s _ => by simp only [p_r21_Trees_L1, ltF (Nat.le_refl _), cond_false]; simp [treesAt])
     (fun k j s y rest hs hlt hx hr ih => by
      simp only [p_r21_Trees_L1, ltT hlt, cond_true, ixN hx]
      cases hy : y.tree
      ·rw [cond_false, w64s (by omega), ih s (by omega)]; simp [treesAt, hy]
      ·rw [cond_true]
       by_cases hh : y.level ≥ a
       ·rw [decide_eq_true hh, cond_true, apN (by simp; omega) (by omega), w64s (by omega), ih _ (by simp; omega)]; simp [treesAt, hy, hh]
       ·rw [decide_eq_false hh, cond_false, w64s (by omega), ih s (by omega)]; simp [treesAt, hy, hh])
     (n := KK) (s := []) (by show _ < 1000; omega) (by simp)
 unfold p_r21_Trees
 rw [show (0 : Int) = ((0 : Nat) : Int) from rfl, this]; simp
theorem okL_chk {top n : Int} : ∀ {l : List Ti} {p : Option Ti}, okL top n p l = true → ∀ t ∈ l, chk1 top n t := by
 intro l
 induction l with
 | nil => intro p _ t ht; cases ht
 | cons a l ih =>
  intro p h t ht
  simp only [okL, Bool.and_eq_true, decide_eq_true_eq] at h
  rcases List.mem_cons.1 ht with rfl | ht
  ·exact h.1.1
  ·exact ih h.2 t ht
def eOf (t : Ti) : E := (t.u.toNat, t.v.toNat)
def esAt (a : Int) (l : List Ti) : List E := (l.filter fun t => t.tree && decide (t.level ≥ a)).map eOf
theorem treesAt_es {top : Int} {n : Nat} {l : List Ti} (h : ∀ t ∈ l, chk1 top n t) (a : Int) : treesAt a l = (esAt a l).map ed := by
 unfold treesAt esAt
 rw [List.map_map]
 refine List.map_congr_left fun t ht => ?_
 have hc := h t (List.mem_filter.1 ht).1
 unfold chk1 at hc
 simp only [Function.comp, ed, eOf, Ed.mk.injEq]
 omega
theorem esAt_lt {top : Int} {n : Nat} {l : List Ti} (h : ∀ t ∈ l, chk1 top n t) (a : Int) : ∀ e ∈ esAt a l, e.1 < n ∧ e.2 < n := by
 intro e he
 obtain ⟨t, ht, rfl⟩ := List.mem_map.1 he
 have hc := h t (List.mem_filter.1 ht).1
 unfold chk1 at hc
 simp only [eOf]
 omega
theorem esAt_len (a : Int) (l : List Ti) : (esAt a l).length ≤ l.length := by
 unfold esAt; rw [List.length_map]; exact List.length_filter_le _ _
theorem treesOf_at {top n : Int} {l : List Ti} (h : ∀ t ∈ l, chk1 top n t) : treesOf l = treesAt 0 l := by
 unfold treesOf treesAt
 congr 1
 refine List.filter_congr fun t ht => ?_
 have hc := h t ht
 unfold chk1 at hc
 rw [decide_eq_true (p := t.level ≥ 0) (by omega)]; simp
def rightB (g : Gr) (n : Nat) (top : Int) : Bool := okL top n none g.ties && ((classes n (esAt 0 g.ties) : Int) == (n : Int) - ((esAt 0 g.ties).length : Int))
theorem level_Right {g : Gr} {n : Nat} {top : Int} (hg : g.n = (n : Int)) (h1 : 1 ≤ n) (hn : n ≤ 12) (hl : g.ties.length ≤ 30) (ht : p_level_Top KK (n : Int) = some top) : p_level_Right KK g = some (rightB g n top) := by
 have e1 := level_L1 (g := g) (top := top) (by omega) g.ties 0 KK rfl (by simp) (by show _ < 1000; omega)
 unfold p_level_Right p_level_sized
 rw [hg, decide_eq_true (p := (n : Int) ≥ 1) (by omega), cond_true, decide_eq_true (p := (n : Int) ≤ 64) (by omega)]
 simp only [Option.bind_some, Bool.not_true, cond_false]
 rw [decide_eq_false (p := (g.ties.length : Int) > 400) (by omega), cond_false, ht]
 simp only [Option.bind_some]
 rw [show (0 : Int) = ((0 : Nat) : Int) from rfl, e1, show prv g.ties 0 = none from rfl, hg]
 unfold rightB
 cases hok : okL top n none g.ties
 ·rfl
 ·have hc := okL_chk hok
  simp only [if_true, Option.bind_some, Bool.true_and]
  rw [show ((0 : Nat) : Int) = 0 from rfl, level_trees (by omega)]
  simp only [Option.bind_some]
  have hel := esAt_len 0 g.ties
  rw [treesAt_es hc 0, forest_Of h1 hn (esAt_lt hc 0) (by omega)]
  simp only [Option.bind_some]
  rw [show ((0 : Int) == 0) = true from rfl, cond_true, ef_len, of_len (esAt_lt hc 0), List.length_map, w64N (by omega) (by omega)]
theorem r21_Right {g : Gr} {n : Nat} {top : Int} (hg : g.n = (n : Int)) (h1 : 1 ≤ n) (hn : n ≤ 12) (hl : g.ties.length ≤ 30) (ht : p_r21_Top KK (n : Int) = some top) : p_r21_Right KK g = some (rightB g n top) := by
 have e1 := r21_L1 (g := g) (top := top) (by omega) (by rw [hg]; exact ht) g.ties 0 KK [] rfl (by simp) (by show _ < 1000; omega) (by simp)
 unfold p_r21_Right
 rw [hg, decide_eq_false (p := (n : Int) < 1) (by omega), cond_false, decide_eq_false (p := (n : Int) > 64) (by omega), cond_false, decide_eq_false (p := (g.ties.length : Int) > 400) (by omega), cond_false]
 rw [show (0 : Int) = ((0 : Nat) : Int) from rfl, e1, show prv g.ties 0 = none from rfl, hg]
 unfold rightB
 cases hok : okL top n none g.ties
 ·rfl
 ·have hc := okL_chk hok
  have hel := esAt_len 0 g.ties
  have hlt := esAt_lt hc 0
  simp only [if_true, Option.bind_some, Bool.true_and, List.nil_append]
  rw [treesOf_at hc, treesAt_es hc 0, r19_Classes hn hlt (by omega)]
  simp only [Option.bind_some]
  have := loopC (σ := Int) (ρ := Int) n (fun k j s => p_r21_Right_L2 KK g k ((List.range n).map fun v => ((lab (esAt 0 g.ties) v : Nat) : Int)) s (j : Int)) (fun j s => some (s + (((List.range n).drop j).countP fun v => lab (esAt 0 g.ties) v == v : Nat))) (fun j s => 0 ≤ s ∧ s ≤ j)
   (fun k s _ => by
    simp only [p_r21_Right_L2]
    rw [hg, ltF (Nat.le_refl _), cond_false, List.drop_eq_nil_of_le (by simp)]; simp)
   (fun k j s hs hj ih => by
    have hgj : ((List.range n).map fun v => ((lab (esAt 0 g.ties) v : Nat) : Int))[j]? = some ((lab (esAt 0 g.ties) j : Nat) : Int) := by simp [hj]
    simp only [p_r21_Right_L2]
    rw [hg, ltT hj, cond_true, ixN hgj, List.drop_eq_getElem_cons (i := j) (by simpa using hj), List.countP_cons]
    simp only [List.getElem_range]
    by_cases hh : lab (esAt 0 g.ties) j = j
    ·rw [hh, show ((j : Int) == (j : Int)) = true by simp, cond_true, w64s (by omega), w64N (by omega) (by omega), ih _ (by omega)]
     simp only [beq_self_eq_true, if_true]; congr 1; omega
    ·rw [show (((lab (esAt 0 g.ties) j : Nat) : Int) == (j : Int)) = false by simp only [beq_eq_false_iff_ne]; omega, cond_false, w64s (by omega), ih _ (by omega)]
     rw [show (lab (esAt 0 g.ties) j == j) = false by simpa using hh]; simp)
   (j := 0) (n := KK) (s := 0) (Nat.zero_le _) (by show _ < 1000; omega) (by omega)
  rw [show ((0 : Nat) : Int) = 0 from rfl] at this ⊢
  rw [this]
  simp only [Option.bind_some, List.drop_zero, List.length_map]
  rw [w64N (by omega) (by omega)]
  simp [classes]
theorem level_Forest {g : Gr} {n : Nat} {top a : Int} (hg : g.n = (n : Int)) (h1 : 1 ≤ n) (hn : n ≤ 12) (hl : g.ties.length ≤ 30) (ht : p_level_Top KK (n : Int) = some top) :
    p_level_Forest KK g a = some (if rightB g n top then (⟨n, ef n (ArForest.of n (esAt a g.ties))⟩, 0) else (⟨0, []⟩, 1)) := by
 unfold p_level_Forest
 rw [level_Right hg h1 hn hl ht]
 simp only [Option.bind_some]
 cases hr : rightB g n top
 ·rfl
 ·have hc := okL_chk (show okL top n none g.ties = true by unfold rightB at hr; simp at hr; exact hr.1)
  have hel := esAt_len a g.ties
  rw [Bool.not_true, cond_false, level_trees (by omega)]
  simp only [Option.bind_some]
  rw [treesAt_es hc a, hg, forest_Of h1 hn (esAt_lt hc a) (by omega)]; rfl
theorem r21_Forest {g : Gr} {n : Nat} {top a : Int} (hg : g.n = (n : Int)) (h1 : 1 ≤ n) (hn : n ≤ 12) (hl : g.ties.length ≤ 30) (ht : p_r21_Top KK (n : Int) = some top) :
    p_r21_Forest KK g a = some (if rightB g n top then (⟨n, ef n (ArForest.of n (esAt a g.ties))⟩, 0) else (⟨0, []⟩, 1)) := by
 unfold p_r21_Forest
 rw [r21_Right hg h1 hn hl ht]
 simp only [Option.bind_some]
 cases hr : rightB g n top
 ·rfl
 ·have hc := okL_chk (show okL top n none g.ties = true by unfold rightB at hr; simp at hr; exact hr.1)
  have hel := esAt_len a g.ties
  rw [Bool.not_true, cond_false, r21_Trees (by omega)]
  simp only [Option.bind_some]
  rw [treesAt_es hc a, hg, r19_Of h1 (by omega) (esAt_lt hc a) (by omega)]; rfl
end Go.Ar.Mm
