import Derived.Test.YteefcelbbenmdaaGreatDoorA03
set_option linter.all false
namespace Go.Ar
open Go.RowKit
def p_ring_Right_1 (K : Nat) (a0 : Int) : Option Bool :=
 (bif (decide (a0 < 0)) then some true else some (decide (a0 > 10000)))
theorem w_ring_Right_1 {K : Nat} {a0 : Int} {y : Bool} (hy : p_ring_Right_1 K a0 = some y) : Does PP GV 66 [] [(I a0)] [] [] (B y) := by
 unfold p_ring_Right_1 at hy
 refine does_of at66 r (le_ok r) <| ?_
 rintro ⟨_, base, w0, F⟩ rfl
 refine reg 1 r <| asg r r r <| dn <| reg 7 r <| mv r r r <| bn r r r r r <| mv r r r <| cas 5 r (fun h1 => ?_) (fun h1 => ?_)
 ·replace hy := ifT hy h1
  refine sk r r <| sk r r <| pkt r r r r r <| asg r r r <| dn <| at_ret <| ?_
  replace hy := sj hy
  subst hy
  exact out1 r (.inl r) (look_of r) r (pu_B _)
 ·replace hy := ifF hy h1
  refine mv r r r <| bn r r r r r <| pkf r r r r r <| asg r r r <| dn <| at_ret <| ?_
  replace hy := sj hy
  subst hy
  exact out1 r (.inl r) (look_of r) r (pu_B _)
def p_ring_once_int_L1 (K : Nat) (a0 : (List Int)) : Nat → Int → (Mp Int Int) → Option (Mp Int Int)
 | 0, _, _ => none
 | n+1, v9_1, m1_1 => (bif (decide (v9_1 < (a0.length : Int))) then (ixP a0 v9_1 fun v2 => p_ring_once_int_L1 K a0 n (w64 (v9_1 + 1)) (m1_1.set v2 (w64 (((m1_1.get? v2).getD 0) + 1)))) else some m1_1)
def p_ring_once_int (K : Nat) (a0 : (List Int)) : Option Bool :=
 ((p_ring_once_int_L1 K a0 K 0 (Mp.empty : (Mp Int Int)) : Option (Mp Int Int)).bind fun m1_2 => some ((m1_2.len : Int) == (a0.length : Int)))
theorem w_ring_once_int {K : Nat} {a0 : (List Int)} {y : Bool} (hy : p_ring_once_int K a0 = some y) : Does PP GV 67 [] [((SL 1 I) a0)] [] [] (B y) := by
 unfold p_ring_once_int at hy
 refine does_of at67 r (le_ok r) <| ?_
 rintro ⟨_, base, w0, F⟩ rfl
 refine reg 1 r <| asg r r r <| dn <| reg 2 r <| mkM (κ := Int) (ν := Int) (Value.int .i64) I 1 r r <| asg r r r <| dn <| ?_
 obtain ⟨o1, hy, k1, hk1, hc1⟩ := bndK hy
 refine meetI (fun (p : (Mp Int Int) × Nat) => match p with | (m1_2, g1_1) => mk [(0, ((SL 1 I) a0)), (3, .mp 1 g1_1)] [(1, some (g1_1, .map (encM (Value.int .i64) I m1_2)))]) (fun p => match p with | (m1_2, g1_1) => k1 m1_2 = some y) ?_ ?_
 ·skip
  refine reg 3 r <| mv r r r <| lnf (f := I) slB29 r r r <| mv r r r <| dn <| at_block <| wk (T' := [(0, ((SL 1 I) a0)), (3, .mp 1 _), (7, ((SL 1 I) a0)), (8, (I (a0.length : Int))), (9, (I 0))]) (H' := [(1, some (_, .map (encM (Value.int .i64) I (Mp.empty : (Mp Int Int)))))]) (.k r r (.k r r (.k r r (.k r r (.k r r .nil))))) (.k r r .nil) <| loopI (fun (p : Nat × Int × (Mp Int Int) × Nat) => match p with | (n2, v9_1, m1_1, g1_2) => mk [(0, ((SL 1 I) a0)), (3, .mp 1 g1_2), (7, ((SL 1 I) a0)), (8, (I (a0.length : Int))), (9, (I v9_1))] [(1, some (g1_2, .map (encM (Value.int .i64) I m1_1)))]) (fun p => match p with | (n2, v9_1, m1_1, g1_2) => p_ring_once_int_L1 K a0 n2 v9_1 m1_1 = some o1) (fun p => p.1) ?_ (K, 0, (Mp.empty : (Mp Int Int)), _) hy _
  rintro ⟨n2, v9_1, m1_1, g1_2⟩ cl hy
  cases n2 with | zero => cases hy | succ n2 => ?_
  change At _ cl (mk _ _) _
  replace hy : p_ring_once_int_L1 K a0 (n2+1) v9_1 m1_1 = some o1 := hy
  rw [p_ring_once_int_L1] at hy
  refine reg 1 r <| bn r r r r r <| dn <| at_seq <| cd r (fun h3 => ?_) (fun h3 => ?_)
  ·replace hy := ifT hy h3
   refine at_skip <| at_seq <| at_block <| reg 3 r <| ?_
   obtain ⟨i1, v2, qi1, xv2, hy⟩ := ixI hy
   refine fixP (f := I) sl29 qi1 xv2 r r r r <| fld tk3 r r r r <| asg r r r <| dn <| reg1 5 r <| mv r r r <| mv r r r <| lkMZ (ev := I) (m := m1_1) (z0 := 0) (kInt ui3) mt61 zo3 (fun _ => Option.some_ne_none _) (fun _ _ h => h) r r r r r r <| bn r r r r r <| upM (ev := I) (m := m1_1) (kInt ui3) mt61 (v := (w64 (((m1_1.get? v2).getD 0) + 1))) (Option.some_ne_none _) r r r r r r <| dn <| at_bn <| reg1 2 r <| bn r r r r r <| mv r r r <| dn <| againI (n2, (w64 (v9_1 + 1)), (m1_1.set v2 (w64 (((m1_1.get? v2).getD 0) + 1))), _) r hy (Nat.lt_succ_self _) (.k r r (.k r r (.k r r (.k r r (.k r r .nil))))) (.k r r .nil)
  ·replace hy := ifF hy h3
   refine at_exit <| at_te <| at_te <| at_inBlock <| ?_
   replace hy := sj hy
   subst hy
   refine metI (m1_1, _) r hc1 (.k r r (.k r r .nil)) (.k r r .nil)
 ·rintro ⟨m1_2, g1_1⟩ cl hy
  subst hk1
  change At _ cl (mk _ _) _
  refine reg 6 r <| mv r r r <| mlM (ek := (Value.int .i64)) (ev := I) (m := m1_2) mt61 r r r r <| mv r r r <| lnf (f := I) slB29 r r r <| bn r r r r r <| asg r r r <| dn <| at_ret <| ?_
  replace hy := sj hy
  subst hy
  exact out1 r (.inl r) (look_of r) r (pu_B _)
def p_ring_Right (K : Nat) (a0 : (List Int)) : Option Bool :=
 (bif (decide ((a0.length : Int) > 1000)) then some false else ((p_slices_ContainsFunc_Sint_int K a0 (fun (x0 : Int) => p_ring_Right_1 K x0)).bind fun r1 => (bif (!r1) then ((p_ring_once_int K a0).bind fun r2 => some r2) else some false)))
theorem w_ring_Right {K : Nat} {a0 : (List Int)} {y : Bool} (hy : p_ring_Right K a0 = some y) : Does PP GV 39 [] [((SL 1 I) a0)] [] [] (B y) := by
 unfold p_ring_Right at hy
 refine does_of at39 r (le_ok r) <| ?_
 rintro ⟨_, base, w0, F⟩ rfl
 refine reg 1 r <| asg r r r <| dn <| at_seq <| reg 3 r <| mv r r r <| lnf (f := I) slB29 r r r <| bn r r r r r <| dn <| cd r (fun h1 => ?_) (fun h1 => ?_)
 ·replace hy := ifT hy h1
  refine reg 1 r <| asg r r r <| dn <| at_ret <| ?_
  replace hy := sj hy
  subst hy
  exact out1 r (.inl r) (look_of r) r (pu_B _)
 ·replace hy := ifF hy h1
  refine at_skip <| reg 1 r <| asg r r r <| dn <| reg 9 r <| mv r r r <| mv r r r <| ?_
  obtain ⟨r1, qr1, hy⟩ := bndI hy
  refine clp (w_slices_ContainsFunc_Sint_int (a1h := fun h => w_ring_Right_1 h) (a1k := ca66) (a1l := ⟨r, r⟩) (a1p := .nil) (a1q := .nil) qr1) ca40 r r (.cons ((pu_l 1 pu_I) _) (.cons (pu_fn (.nil) (.nil)) (.nil))) (.one (pu_B _)) r <| nt r r r <| mv r r r <| cas 11 r (fun h2 => ?_) (fun h2 => ?_)
  ·replace hy := ifT hy h2
   refine mv r r r <| ?_
   obtain ⟨r2, qr2, hy⟩ := bndI hy
   refine clp (w_ring_once_int qr2) ca67 r r (.cons ((pu_l 1 pu_I) _) (.nil)) (.one (pu_B _)) r <| pkt r r r r r <| asg r r r <| dn <| at_ret <| ?_
   replace hy := sj hy
   subst hy
   exact out1 r (.inl r) (look_of r) r (pu_B _)
  ·replace hy := ifF hy h2
   refine sk r r <| sk r r <| pkf r r r r r <| asg r r r <| dn <| at_ret <| ?_
   replace hy := sj hy
   subst hy
   exact out1 r (.inl r) (look_of r) r (pu_B _)
def p_tour_sized (K : Nat) (a0 : Int) : Option Bool :=
 (bif (decide (a0 ≥ 1)) then some (decide (a0 ≤ 64)) else some false)
theorem w_tour_sized {K : Nat} {a0 : Int} {y : Bool} (hy : p_tour_sized K a0 = some y) : Does PP GV 91 [] [(I a0)] [] [] (B y) := by
 unfold p_tour_sized at hy
 refine does_of at91 r (le_ok r) <| ?_
 rintro ⟨_, base, w0, F⟩ rfl
 refine reg 1 r <| asg r r r <| dn <| reg 7 r <| mv r r r <| bn r r r r r <| mv r r r <| cas 5 r (fun h1 => ?_) (fun h1 => ?_)
 ·replace hy := ifT hy h1
  refine mv r r r <| bn r r r r r <| pkt r r r r r <| asg r r r <| dn <| at_ret <| ?_
  replace hy := sj hy
  subst hy
  exact out1 r (.inl r) (look_of r) r (pu_B _)
 ·replace hy := ifF hy h1
  refine sk r r <| sk r r <| pkf r r r r r <| asg r r r <| dn <| at_ret <| ?_
  replace hy := sj hy
  subst hy
  exact out1 r (.inl r) (look_of r) r (pu_B _)
def p_tour_in (K : Nat) (a0 : Int) (a1 : Int) : Option Bool :=
 ((p_tour_sized K a0).bind fun r1 => (bif r1 then (bif (decide (a1 ≥ 0)) then some (decide (a1 < a0)) else some false) else some false))
theorem w_tour_in {K : Nat} {a0 : Int} {a1 : Int} {y : Bool} (hy : p_tour_in K a0 a1 = some y) : Does PP GV 63 [] [(I a0), (I a1)] [] [] (B y) := by
 unfold p_tour_in at hy
 refine does_of at63 r (le_ok r) <| ?_
 rintro ⟨_, base, w0, F⟩ rfl
 refine reg 1 r <| asg r r r <| dn <| reg 12 r <| mv r r r <| ?_
 obtain ⟨r1, qr1, hy⟩ := bndI hy
 refine clp (w_tour_sized qr1) ca91 r r (.cons (pu_I _) (.nil)) (.one (pu_B _)) r <| mv r r r <| cas 7 r (fun h1 => ?_) (fun h1 => ?_)
 ·replace hy := ifT hy h1
  refine mv r r r <| bn r r r r r <| pkt r r r r r <| mv r r r <| cas 11 r (fun h2 => ?_) (fun h2 => ?_)
  ·replace hy := ifT hy h2
   refine mv r r r <| mv r r r <| bn r r r r r <| pkt r r r r r <| asg r r r <| dn <| at_ret <| ?_
   replace hy := sj hy
   subst hy
   exact out1 r (.inl r) (look_of r) r (pu_B _)
  ·replace hy := ifF hy h2
   refine sk r r <| sk r r <| sk r r <| pkf r r r r r <| asg r r r <| dn <| at_ret <| ?_
   replace hy := sj hy
   subst hy
   exact out1 r (.inl r) (look_of r) r (pu_B _)
 ·replace hy := ifF hy h1
  refine sk r r <| sk r r <| pkf r r r r r <| mv r r r <| sk r r <| sk r r <| sk r r <| pkf r r r r r <| asg r r r <| dn <| at_ret <| ?_
  replace hy := sj hy
  subst hy
  exact out1 r (.inl r) (look_of r) r (pu_B _)
def p_tour_Arc (K : Nat) (a0 : Int) (a1 : Int) (a2 : Int) : Option Int :=
 (bif (a1 == a2) then some (-1) else ((p_tour_in K a0 a1).bind fun r1 => (bif (!r1) then some (-1) else ((p_tour_in K a0 a2).bind fun r2 => (bif (!r2) then some (-1) else some (w64 ((w64 (a0 * (w64 (a1 + 1)))) + a2)))))))
theorem w_tour_Arc {K : Nat} {a0 : Int} {a1 : Int} {a2 : Int} {y : Int} (hy : p_tour_Arc K a0 a1 a2 = some y) : Does PP GV 135 [] [(I a0), (I a1), (I a2)] [] [] (I y) := by
 unfold p_tour_Arc at hy
 refine does_of at135 r (le_ok r) <| ?_
 rintro ⟨_, base, w0, F⟩ rfl
 refine reg 1 r <| asg r r r <| dn <| at_seq <| reg 15 r <| mv r r r <| mv r r r <| bn r r r r r <| mv r r r <| cas 10 r (fun h1 => ?_) (fun h1 => ?_)
 ·replace hy := ifT hy h1
  refine sk r r <| sk r r <| sk r r <| sk r r <| pkt r r r r r <| mv r r r <| sk r r <| sk r r <| sk r r <| sk r r <| pkt r r r r r <| dn <| cdt r <| reg 1 r <| asg r r r <| dn <| at_ret <| ?_
  replace hy := sj hy
  subst hy
  exact out1 r (.inl r) (look_of r) r (pu_I _)
 ·replace hy := ifF hy h1
  refine mv r r r <| mv r r r <| ?_
  obtain ⟨r1, qr1, hy⟩ := bndI hy
  refine clp (w_tour_in qr1) ca63 r r (.cons (pu_I _) (.cons (pu_I _) (.nil))) (.one (pu_B _)) r <| nt r r r <| pkf r r r r r <| mv r r r <| cas 16 r (fun h2 => ?_) (fun h2 => ?_)
  ·replace hy := ifT hy h2
   refine sk r r <| sk r r <| sk r r <| sk r r <| pkt r r r r r <| dn <| cdt r <| reg 1 r <| asg r r r <| dn <| at_ret <| ?_
   replace hy := sj hy
   subst hy
   exact out1 r (.inl r) (look_of r) r (pu_I _)
  ·replace hy := ifF hy h2
   refine mv r r r <| mv r r r <| ?_
   obtain ⟨r2, qr2, hy⟩ := bndI hy
   refine clp (w_tour_in qr2) ca63 r r (.cons (pu_I _) (.cons (pu_I _) (.nil))) (.one (pu_B _)) r <| nt r r r <| pkf r r r r r <| dn <| cd r (fun h3 => ?_) (fun h3 => ?_)
   ·replace hy := ifT hy h3
    refine reg 1 r <| asg r r r <| dn <| at_ret <| ?_
    replace hy := sj hy
    subst hy
    exact out1 r (.inl r) (look_of r) r (pu_I _)
   ·replace hy := ifF hy h3
    refine at_skip <| reg 7 r <| mv r r r <| mv r r r <| bn r r r r r <| bn r r r r r <| mv r r r <| bn r r r r r <| asg r r r <| dn <| at_ret <| ?_
    replace hy := sj hy
    subst hy
    exact out1 r (.inl r) (look_of r) r (pu_I _)
def p_tour_Token (K : Nat) (a0 : Int) (a1 : Int) : Option (Int × Int × Bool × Bool) :=
 ((p_tour_sized K a0).bind fun r1 => (bif (!r1) then some (0, 0, false, false) else (bif (decide (a1 < 0)) then some (0, 0, false, false) else (bif (decide (a1 ≥ (w64 (a0 * (w64 (a0 + 1)))))) then some (0, 0, false, false) else (bif (decide (a1 < a0)) then some (a1, 0, false, true) else (nzP a0 ((nzP a0 ((bif ((w64 ((w64 (Int.tdiv a1 a0)) - 1)) == (Int.tmod a1 a0)) then some (0, 0, false, false) else some ((w64 ((w64 (Int.tdiv a1 a0)) - 1)), (Int.tmod a1 a0), true, true)))))))))))
theorem w_tour_Token {K : Nat} {a0 : Int} {a1 : Int} {y : (Int × Int × Bool × Bool)} (hy : p_tour_Token K a0 a1 = some y) : Does PP GV 114 [] [(I a0), (I a1)] [] [] (.tup [(I y.1), (I y.2.1), (B y.2.2.1), (B y.2.2.2)]) := by
 unfold p_tour_Token at hy
 refine does_of at114 r (le_ok r) <| ?_
 rintro ⟨_, base, w0, F⟩ rfl
 refine reg 4 r <| asg r r r <| asg r r r <| asg r r r <| asg r r r <| dn <| at_seq <| at_block <| reg 16 r <| mv r r r <| ?_
 obtain ⟨r1, qr1, hy⟩ := bndI hy
 refine clp (w_tour_sized qr1) ca91 r r (.cons (pu_I _) (.nil)) (.one (pu_B _)) r <| nt r r r <| mv r r r <| cas 12 r (fun h1 => ?_) (fun h1 => ?_)
 ·replace hy := ifT hy h1
  refine sk r r <| sk r r <| pkt r r r r r <| mv r r r <| sk r r <| sk r r <| sk r r <| sk r r <| sk r r <| sk r r <| pkt r r r r r <| asg r r r <| dn <| cdt r <| reg 4 r <| asg r r r <| asg r r r <| asg r r r <| asg r r r <| dn <| at_ret <| ?_
  replace hy := sj hy
  subst hy
  exact outs (rs := [4, 5, 6, 7]) (res4 r) (by simp) (.inl r) (looks_of r) r (.cons (pu_I _) (.cons (pu_I _) (.cons (pu_B _) (.cons (pu_B _) (.nil)))))
 ·replace hy := ifF hy h1
  refine mv r r r <| bn r r r r r <| pkf r r r r r <| mv r r r <| cas 16 r (fun h2 => ?_) (fun h2 => ?_)
  ·replace hy := ifT hy h2
   refine sk r r <| sk r r <| sk r r <| sk r r <| sk r r <| sk r r <| pkt r r r r r <| asg r r r <| dn <| cdt r <| reg 4 r <| asg r r r <| asg r r r <| asg r r r <| asg r r r <| dn <| at_ret <| ?_
   replace hy := sj hy
   subst hy
   exact outs (rs := [4, 5, 6, 7]) (res4 r) (by simp) (.inl r) (looks_of r) r (.cons (pu_I _) (.cons (pu_I _) (.cons (pu_B _) (.cons (pu_B _) (.nil)))))
  ·replace hy := ifF hy h2
   refine mv r r r <| mv r r r <| mv r r r <| bn r r r r r <| bn r r r r r <| bn r r r r r <| pkf r r r r r <| asg r r r <| dn <| cd r (fun h3 => ?_) (fun h3 => ?_)
   ·replace hy := ifT hy h3
    refine reg 4 r <| asg r r r <| asg r r r <| asg r r r <| asg r r r <| dn <| at_ret <| ?_
    replace hy := sj hy
    subst hy
    exact outs (rs := [4, 5, 6, 7]) (res4 r) (by simp) (.inl r) (looks_of r) r (.cons (pu_I _) (.cons (pu_I _) (.cons (pu_B _) (.cons (pu_B _) (.nil)))))
   ·replace hy := ifF hy h3
    refine reg 4 r <| mv r r r <| mv r r r <| bn r r r r r <| asg r r r <| dn <| cd r (fun h4 => ?_) (fun h4 => ?_)
    ·replace hy := ifT hy h4
     refine reg 5 r <| mv r r r <| asg r r r <| asg r r r <| asg r r r <| asg r r r <| dn <| at_ret <| ?_
     replace hy := sj hy
     subst hy
     exact outs (rs := [4, 5, 6, 7]) (res4 r) (by simp) (.inl r) (looks_of r) r (.cons (pu_I _) (.cons (pu_I _) (.cons (pu_B _) (.cons (pu_B _) (.nil)))))
    ·replace hy := ifF hy h4
     refine at_skip <| at_bn <| regd mixed 9 r <| mv r r r <| mv r r r <| ?_
     obtain ⟨k2, hy⟩ := nzI hy
     refine dv r r r r k2 <| bn r r r r r <| mv r r r <| mv r r r <| ?_
     obtain ⟨k3, hy⟩ := nzI hy
     refine rm r r r r k3 <| asg r r r <| asg r r r <| dn ⟨by kernel_rfl, ?_⟩
     refine at_seq <| reg 3 r <| mv r r r <| mv r r r <| bn r r r r r <| dn <| cd r (fun h5 => ?_) (fun h5 => ?_)
     ·replace hy := ifT hy h5
      refine reg 4 r <| asg r r r <| asg r r r <| asg r r r <| asg r r r <| dn <| at_ret <| ?_
      replace hy := sj hy
      subst hy
      exact outs (rs := [4, 5, 6, 7]) (res4 r) (by simp) (.inl r) (looks_of r) r (.cons (pu_I _) (.cons (pu_I _) (.cons (pu_B _) (.cons (pu_B _) (.nil)))))
     ·replace hy := ifF hy h5
      refine at_skip <| reg 6 r <| mv r r r <| mv r r r <| asg r r r <| asg r r r <| asg r r r <| asg r r r <| dn <| at_ret <| ?_
      replace hy := sj hy
      subst hy
      exact outs (rs := [4, 5, 6, 7]) (res4 r) (by simp) (.inl r) (looks_of r) r (.cons (pu_I _) (.cons (pu_I _) (.cons (pu_B _) (.cons (pu_B _) (.nil)))))
def p_tour_Make_L1 (K : Nat) (a0 : Int) : Nat → Int → (List (List Int)) → Option (List (List Int))
 | 0, _, _ => none
 | n+1, v13_1, l2021_1 => (bif (decide (v13_1 < a0)) then (apP 24 l2021_1.length [[v13_1]].length (p_tour_Make_L1 K a0 n (w64 (v13_1 + 1)) (l2021_1 ++ [[v13_1]]))) else some l2021_1)
def p_tour_Make (K : Nat) (a0 : Int) : Option (Fo × Int) :=
 ((p_tour_sized K a0).bind fun r1 => (bif (!r1) then some ((Fo.mk 0 []), 1) else ((p_tour_Make_L1 K a0 K 0 [] : Option (List (List Int))).bind fun l2021_2 => some ((Fo.mk a0 l2021_2), 0))))
theorem w_tour_Make {K : Nat} {a0 : Int} {y : (Fo × Int)} (hy : p_tour_Make K a0 = some y) : Does PP GV 89 [] [(I a0)] [] [] (.tup [(FoA y.1), (I y.2)]) := by
 unfold p_tour_Make at hy
 refine does_of at89 r (le_ok r) <| ?_
 rintro ⟨_, base, w0, F⟩ rfl
 refine reg 2 r <| rg_alloc (s := 1) (gd_of r) zc81 (elems_one (by rfl)) (lt_ok r) <| asg r r r <| dn <| at_seq <| reg 3 r <| mv r r r <| ?_
 obtain ⟨r1, qr1, hy⟩ := bndI hy
 refine clp (w_tour_sized qr1) ca91 r r (.cons (pu_I _) (.nil)) (.one (pu_B _)) r <| nt r r r <| dn <| cd r (fun h1 => ?_) (fun h1 => ?_)
 ·replace hy := ifT hy h1
  refine reg 3 r <| bld bd81 r r r r <| str tk81 r r r r r r r <| asg r r r <| dn <| at_ret <| cellN (SL 1 I) 1 1 1 r r <| ?_
  replace hy := sj hy
  subst hy
  exact endZ [] (rs := [_, _]) r (by simp) (.inl r) (.cell _ _ _ _ _ _ _ _ _ _ _ _ _ r r r tk81 r (.tmp _ _ _ _ r .nil)) (by simp) (PuL.rn (xs := [(FoA (Fo.mk 0 [])), (I 1)]) (.cons (pu_Fo _) (.cons (pu_I _) (.nil))))
 ·replace hy := ifF hy h1
  refine at_skip <| reg 4 r <| mv r r r <| bld bd81 r r r r <| rg_alloc (s := 2) (gd_of r) zc81 (elems_one (by rfl)) (lt_ok r) <| str tk81 r r r r r r r <| dn <| ?_
  obtain ⟨o1, hy, k1, hk1, hc1⟩ := bndK hy
  refine meetI (fun (p : (List (List Int)) × Nat × Nat × Nat) => match p with | (l2021_2, g1_1, g2_1, g2021_1) => mk [(2, .ptr 1 g1_1 0 0), (4, .ptr 2 g2_1 0 0)] [(1, some (g1_1, .buf 2 [.agg [(I 0), .v (.slice none 0 0)]])), (2, some (g2_1, .buf 2 [.agg [(I a0), .own 2021 g2021_1 1 0 (l2021_2).length false]])), (2021, some (g2021_1, .buf 1 (l2021_2.map (SL 1 I))))]) (fun p => match p with | (l2021_2, g1_1, g2_1, g2021_1) => k1 l2021_2 = some y) ?_ ?_
  ·skip
   refine reg 2 r <| mv r r r <| mv r r r <| dn <| at_block <| cellO (SL 1 I) 2 2021 1 1 r r r <| wk (T' := [(2, .ptr 1 _ 0 0), (4, .ptr 2 _ 0 0), (12, (I a0)), (13, (I 0))]) (H' := [(1, some (_, .buf 2 [.agg [(I 0), .v (.slice none 0 0)]])), (2, some (_, .buf 2 [.agg [(I a0), .own 2021 _ 1 0 ([]).length false]])), (2021, some (_, .buf 1 ([].map (SL 1 I))))]) (.k r r (.k r r (.k r r (.k r r .nil)))) (.k r r (.k r r (.k r r .nil))) <| loopI (fun (p : Nat × Int × (List (List Int)) × Nat × Nat × Nat) => match p with | (n2, v13_1, l2021_1, g1_2, g2_2, g2021_2) => mk [(2, .ptr 1 g1_2 0 0), (4, .ptr 2 g2_2 0 0), (12, (I a0)), (13, (I v13_1))] [(1, some (g1_2, .buf 2 [.agg [(I 0), .v (.slice none 0 0)]])), (2, some (g2_2, .buf 2 [.agg [(I a0), .own 2021 g2021_2 1 0 (l2021_1).length false]])), (2021, some (g2021_2, .buf 1 (l2021_1.map (SL 1 I))))]) (fun p => match p with | (n2, v13_1, l2021_1, g1_2, g2_2, g2021_2) => p_tour_Make_L1 K a0 n2 v13_1 l2021_1 = some o1) (fun p => p.1) ?_ (K, 0, [], _, _, _) hy _
   rintro ⟨n2, v13_1, l2021_1, g1_2, g2_2, g2021_2⟩ cl hy
   cases n2 with | zero => cases hy | succ n2 => ?_
   change At _ cl (mk _ _) _
   replace hy : p_tour_Make_L1 K a0 (n2+1) v13_1 l2021_1 = some o1 := hy
   rw [p_tour_Make_L1] at hy
   refine reg 1 r <| bn r r r r r <| dn <| at_seq <| cd r (fun h4 => ?_) (fun h4 => ?_)
   ·replace hy := ifT hy h4
    refine at_skip <| at_seq <| at_block <| reg 2 r <| mv r r r <| asg r r r <| dn <| reg1 8 r <| fa fo81_1 r r r <| ld tk30 r r r r r r <| mv r r r <| bldsF I ([v13_1] : List Int) 3 pu_I se29 r r r r r r r <| bldsP (SL 1 I) ([[v13_1]] : List (List Int)) 4 se30 r r r r r r r <| ?_
    obtain ⟨k2a, k2b, hy⟩ := apI hy
    refine apoP (f := (SL 1 I)) (l := l2021_1) (zs := [[v13_1]]) se30 k2a k2b r r r r r r <| fa fo81_1 r r r <| str tk30 r r r r r r r <| dn <| at_bn <| reg1 2 r <| bn r r r r r <| mv r r r <| dn <| againI (n2, (w64 (v13_1 + 1)), (l2021_1 ++ [[v13_1]]), _, _, _) r hy (Nat.lt_succ_self _) (.k r r (.k r r (.k r r (.k r r .nil)))) (.k r r (.k r r (.k r r .nil)))
   ·replace hy := ifF hy h4
    refine at_exit <| at_te <| at_te <| at_inBlock <| ?_
    replace hy := sj hy
    subst hy
    refine metI (l2021_1, _, _, _) r hc1 (.k r r (.k r r .nil)) (.k r r (.k r r (.k r r .nil)))
  ·rintro ⟨l2021_2, g1_1, g2_1, g2021_1⟩ cl hy
   subst hk1
   change At _ cl (mk _ _) _
   refine reg 3 r <| ldw tk81 r r r r r r <| str tk81 r r r r r r r <| asg r r r <| dn <| at_ret <| cellF (f := (SL 1 I)) (l := l2021_2) 1 2021 1 r r r (pu_l 1 pu_I) r <| ?_
   replace hy := sj hy
   subst hy
   exact endZ [] (rs := [_, _]) r (by simp) (.inl r) (.cell _ _ _ _ _ _ _ _ _ _ _ _ _ r r r tk81 r (.tmp _ _ _ _ r .nil)) (by simp) (PuL.rn (xs := [(FoA (Fo.mk a0 l2021_2)), (I 0)]) (.cons (pu_Fo _) (.cons (pu_I _) (.nil))))
def p_tour_place (K : Nat) (a0 : Fo) (a1 : Int) : Option Int :=
 ((p_slices_IndexFunc_SSint_Sint K a0.rings (fun (x0 : (List Int)) => p_tour_place_1 K x0 a1)).bind fun r1 => some r1)
theorem w_tour_place {K : Nat} {a0 : Fo} {a1 : Int} {y : Int} (hy : p_tour_place K a0 a1 = some y) : Does PP GV 65 [] [(FoA a0), (I a1)] [] [] (I y) := by
 unfold p_tour_place at hy
 refine does_of at65 r (le_ok r) <| ?_
 rintro ⟨_, base, w0, F⟩ rfl
 refine reg 3 r <| bx 1 r r r r <| bx 2 r r r r <| asg r r r <| dn <| frzB (e := (I a1)) 3 2 r r (pu_I _) <| reg 5 r <| fa fo81_1 r r r <| ld tk30 r r r r r r <| rg_makeFunc (gd_of r) (evL_of r) (evL_of r) r (lt_ok r) <| ?_
 obtain ⟨r1, qr1, hy⟩ := bndI hy
 refine clp (w_slices_IndexFunc_SSint_Sint (a1h := fun h => w_tour_place_1 h) (a1k := ca95) (a1l := ⟨r, r⟩) (a1p := .nil) (a1q := .cons ((pu_fp pu_I) _) (.nil)) qr1) ca94 r r (.cons ((pu_l 1 (pu_l 1 pu_I)) _) (.cons (pu_fn (.nil) (.cons ((pu_fp pu_I) _) (.nil))) (.nil))) (.one (pu_I _)) r <| asg r r r <| dn <| at_ret <| ?_
 replace hy := sj hy
 subst hy
 exact out1 r (.inl r) (look_of r) r (pu_I _)
def p_forest_ends_L1 (K : Nat) (a0 : (List Ed)) : Nat → Int → (List Int) → Option (List Int)
 | 0, _, _ => none
 | n+1, v8_1, l1003_1 => (bif (decide (v8_1 < (a0.length : Int))) then (ixP a0 v8_1 fun v2 => (apP 8 l1003_1.length [v2.u, v2.v].length (p_forest_ends_L1 K a0 n (w64 (v8_1 + 1)) (l1003_1 ++ [v2.u, v2.v])))) else some l1003_1)
def p_forest_ends (K : Nat) (a0 : (List Ed)) : Option (List Int) :=
 ((p_forest_ends_L1 K a0 K 0 [] : Option (List Int)).bind fun l1003_2 => some l1003_2)
theorem w_forest_ends {K : Nat} {a0 : (List Ed)} {y : (List Int)} (hy : p_forest_ends K a0 = some y) : Does PP GV 131 [] [((SL 2 EdA) a0)] [] [] ((SL 1 I) y) := by
 unfold p_forest_ends at hy
 refine does_of at131 r (le_ok r) <| ?_
 rintro ⟨_, base, w0, F⟩ rfl
 refine reg 1 r <| asg r r r <| dn <| reg 1 r <| asg r r r <| dn <| ?_
 obtain ⟨o1, hy, k1, hk1, hc1⟩ := bndK hy
 refine meetI (fun (p : (List Int) × Nat) => match p with | (l1003_2, g1003_1) => mk [(3, .own 1003 g1003_1 1 0 (l1003_2).length false)] [(1003, some (g1003_1, .buf 1 (l1003_2.map I)))]) (fun p => match p with | (l1003_2, g1003_1) => k1 l1003_2 = some y) ?_ ?_
 ·skip
  refine reg 3 r <| mv r r r <| lnf (f := EdA) slB41 r r r <| mv r r r <| dn <| at_block <| niloP (I) 3 1003 1 r <| wk (T' := [(3, .own 1003 _ 1 0 ([]).length false), (6, ((SL 2 EdA) a0)), (7, (I (a0.length : Int))), (8, (I 0))]) (H' := [(1003, some (_, .buf 1 ([].map I)))]) (.k r r (.k r r (.k r r (.k r r .nil)))) (.k r r .nil) <| loopI (fun (p : Nat × Int × (List Int) × Nat) => match p with | (n2, v8_1, l1003_1, g1003_2) => mk [(3, .own 1003 g1003_2 1 0 (l1003_1).length false), (6, ((SL 2 EdA) a0)), (7, (I (a0.length : Int))), (8, (I v8_1))] [(1003, some (g1003_2, .buf 1 (l1003_1.map I)))]) (fun p => match p with | (n2, v8_1, l1003_1, g1003_2) => p_forest_ends_L1 K a0 n2 v8_1 l1003_1 = some o1) (fun p => p.1) ?_ (K, 0, [], _) hy _
  rintro ⟨n2, v8_1, l1003_1, g1003_2⟩ cl hy
  cases n2 with | zero => cases hy | succ n2 => ?_
  change At _ cl (mk _ _) _
  replace hy : p_forest_ends_L1 K a0 (n2+1) v8_1 l1003_1 = some o1 := hy
  rw [p_forest_ends_L1] at hy
  refine reg 1 r <| bn r r r r r <| dn <| at_seq <| cd r (fun h3 => ?_) (fun h3 => ?_)
  ·replace hy := ifT hy h3
   refine at_skip <| at_seq <| at_block <| reg 4 r <| ?_
   obtain ⟨i1, v2, qi1, xv2, hy⟩ := ixI hy
   refine fixP (f := EdA) sl41 qi1 xv2 r r r r <| fldw tk47 r r r r <| rg_alloc (s := 1) (gd_of r) zc47 (elems_one (by rfl)) (lt_ok r) <| str tk47 r r r r r r r <| dn <| reg1 8 r <| mv r r r <| fa fo47_0 r r r <| ld tk3 r r r r r r <| fa fo47_1 r r r <| ld tk3 r r r r r r <| bldsP I ([v2.u, v2.v] : List Int) 2 se29 r r r r r r r <| ?_
   obtain ⟨k3a, k3b, hy⟩ := apI hy
   refine apoP (f := I) (l := l1003_1) (zs := [v2.u, v2.v]) se29 k3a k3b r r r r r r <| asg r r r <| dn <| at_bn <| reg1 2 r <| bn r r r r r <| mv r r r <| dn <| againI (n2, (w64 (v8_1 + 1)), (l1003_1 ++ [v2.u, v2.v]), _) r hy (Nat.lt_succ_self _) (.k r r (.k r r (.k r r (.k r r .nil)))) (.k r r .nil)
  ·replace hy := ifF hy h3
   refine at_exit <| at_te <| at_te <| at_inBlock <| ?_
   replace hy := sj hy
   subst hy
   refine metI (l1003_1, _) r hc1 (.k r r .nil) (.k r r .nil)
 ·rintro ⟨l1003_2, g1003_1⟩ cl hy
  subst hk1
  change At _ cl (mk _ _) _
  refine reg 2 r <| mv r r r <| asg r r r <| dn <| at_ret <| frzP (f := I) (l := l1003_2) 2 1003 r r pu_I <| ?_
  replace hy := sj hy
  subst hy
  exact out1 r (.inl r) (look_of r) r ((pu_l 1 pu_I) _)
def p_forest_there_1 (K : Nat) (a0 : Int) (a1 : Fo) : Option Bool :=
 (bif (decide (a0 < 0)) then some true else some (decide (a0 ≥ a1.n)))
theorem w_forest_there_1 {K : Nat} {a0 : Int} {a1 : Fo} {y : Bool} (hy : p_forest_there_1 K a0 a1 = some y) : Does PP GV 140 [] [(I a0), ((FP FoA) a1)] [] [] (B y) := by
 unfold p_forest_there_1 at hy
 refine does_of at140 r (le_ok r) <| ?_
 rintro ⟨_, base, w0, F⟩ rfl
 refine reg 1 r <| asg r r r <| dn <| reg 9 r <| mv r r r <| bn r r r r r <| mv r r r <| cas 6 r (fun h1 => ?_) (fun h1 => ?_)
 ·replace hy := ifT hy h1
  refine sk r r <| sk r r <| sk r r <| sk r r <| pkt r r r r r <| asg r r r <| dn <| at_ret <| ?_
  replace hy := sj hy
  subst hy
  exact out1 r (.inl r) (look_of r) r (pu_B _)
 ·replace hy := ifF hy h1
  refine mv r r r <| ffa fo81_0 r r r <| fld tk3 r r r r <| bn r r r r r <| pkf r r r r r <| asg r r r <| dn <| at_ret <| ?_
  replace hy := sj hy
  subst hy
  exact out1 r (.inl r) (look_of r) r (pu_B _)
def p_tower_high (K : Nat) (a0 : Int) : Option Bool :=
 (bif (decide (a0 ≥ 1)) then some (decide (a0 ≤ 8)) else some false)
theorem w_tower_high {K : Nat} {a0 : Int} {y : Bool} (hy : p_tower_high K a0 = some y) : Does PP GV 38 [] [(I a0)] [] [] (B y) := by
 unfold p_tower_high at hy
 refine does_of at38 r (le_ok r) <| ?_
 rintro ⟨_, base, w0, F⟩ rfl
 refine reg 1 r <| asg r r r <| dn <| reg 7 r <| mv r r r <| bn r r r r r <| mv r r r <| cas 5 r (fun h1 => ?_) (fun h1 => ?_)
 ·replace hy := ifT hy h1
  refine mv r r r <| bn r r r r r <| pkt r r r r r <| asg r r r <| dn <| at_ret <| ?_
  replace hy := sj hy
  subst hy
  exact out1 r (.inl r) (look_of r) r (pu_B _)
 ·replace hy := ifF hy h1
  refine sk r r <| sk r r <| pkf r r r r r <| asg r r r <| dn <| at_ret <| ?_
  replace hy := sj hy
  subst hy
  exact out1 r (.inl r) (look_of r) r (pu_B _)
def p_tower_Build_1 (K : Nat) (a0 : Int) : Option Bool :=
 ((p_tower_high K a0).bind fun r1 => some (!r1))
theorem w_tower_Build_1 {K : Nat} {a0 : Int} {y : Bool} (hy : p_tower_Build_1 K a0 = some y) : Does PP GV 37 [] [(I a0)] [] [] (B y) := by
 unfold p_tower_Build_1 at hy
 refine does_of at37 r (le_ok r) <| ?_
 rintro ⟨_, base, w0, F⟩ rfl
 refine reg 1 r <| asg r r r <| dn <| reg 4 r <| mv r r r <| ?_
 obtain ⟨r1, qr1, hy⟩ := bndI hy
 refine clp (w_tower_high qr1) ca38 r r (.cons (pu_I _) (.nil)) (.one (pu_B _)) r <| nt r r r <| asg r r r <| dn <| at_ret <| ?_
 replace hy := sj hy
 subst hy
 exact out1 r (.inl r) (look_of r) r (pu_B _)
def p_tower_Same (K : Nat) (a0 : Tw) (a1 : Tw) : Option Bool :=
 ((p_slices_Equal_Sint_int K a0.tokens a1.tokens).bind fun r1 => (bif r1 then ((p_slices_Equal_Sint_int K a0.heights a1.heights).bind fun r2 => (bif r2 then ((p_slices_EqualFunc_SSint_SSint_Sint_Sint K a0.next a1.next (fun (x0 : (List Int)) (x1 : (List Int)) => p_slices_Equal_Sint_int K x0 x1)).bind fun r3 => some r3) else some false)) else some false))
theorem w_tower_Same {K : Nat} {a0 : Tw} {a1 : Tw} {y : Bool} (hy : p_tower_Same K a0 a1 = some y) : Does PP GV 97 [] [(TwA a0), (TwA a1)] [] [] (B y) := by
 unfold p_tower_Same at hy
 refine does_of at97 r (le_ok r) <| ?_
 rintro ⟨_, base, w0, F⟩ rfl
 refine reg 3 r <| bx 1 r r r r <| bx 2 r r r r <| asg r r r <| dn <| reg 20 r <| fa fo32_0 r r r <| ld tk29 r r r r r r <| fa fo32_0 r r r <| ld tk29 r r r r r r <| ?_
 obtain ⟨r1, qr1, hy⟩ := bndI hy
 refine clp (w_slices_Equal_Sint_int qr1) ca117 r r (.cons ((pu_l 1 pu_I) _) (.cons ((pu_l 1 pu_I) _) (.nil))) (.one (pu_B _)) r <| mv r r r <| cas 10 r (fun h1 => ?_) (fun h1 => ?_)
 ·replace hy := ifT hy h1
  refine fa fo32_1 r r r <| ld tk29 r r r r r r <| fa fo32_1 r r r <| ld tk29 r r r r r r <| ?_
  obtain ⟨r2, qr2, hy⟩ := bndI hy
  refine clp (w_slices_Equal_Sint_int qr2) ca117 r r (.cons ((pu_l 1 pu_I) _) (.cons ((pu_l 1 pu_I) _) (.nil))) (.one (pu_B _)) r <| pkt r r r r r <| mv r r r <| cas 17 r (fun h2 => ?_) (fun h2 => ?_)
  ·replace hy := ifT hy h2
   refine fa fo32_2 r r r <| ld tk30 r r r r r r <| fa fo32_2 r r r <| ld tk30 r r r r r r <| ?_
   obtain ⟨r3, qr3, hy⟩ := bndI hy
   refine clp (w_slices_EqualFunc_SSint_SSint_Sint_Sint (a2h := fun h => w_slices_Equal_Sint_int h) (a2k := ca117) (a2l := ⟨r, r⟩) (a2p := .nil) (a2q := .nil) qr3) ca118 r r (.cons ((pu_l 1 (pu_l 1 pu_I)) _) (.cons ((pu_l 1 (pu_l 1 pu_I)) _) (.cons (pu_fn (.nil) (.nil)) (.nil)))) (.one (pu_B _)) r <| pkt r r r r r <| asg r r r <| dn <| at_ret <| ?_
   replace hy := sj hy
   subst hy
   exact out1 r (.inl r) (look_of r) r (pu_B _)
  ·replace hy := ifF hy h2
   refine sk r r <| sk r r <| sk r r <| sk r r <| sk r r <| pkf r r r r r <| asg r r r <| dn <| at_ret <| ?_
   replace hy := sj hy
   subst hy
   exact out1 r (.inl r) (look_of r) r (pu_B _)
 ·replace hy := ifF hy h1
  refine sk r r <| sk r r <| sk r r <| sk r r <| sk r r <| pkf r r r r r <| mv r r r <| sk r r <| sk r r <| sk r r <| sk r r <| sk r r <| pkf r r r r r <| asg r r r <| dn <| at_ret <| ?_
  replace hy := sj hy
  subst hy
  exact out1 r (.inl r) (look_of r) r (pu_B _)
def p_sum_odd (K : Nat) (a0 : Int) : Option Bool :=
 (bif (decide (a0 < (-1073741824))) then some true else some (decide (a0 > 1073741824)))
theorem w_sum_odd {K : Nat} {a0 : Int} {y : Bool} (hy : p_sum_odd K a0 = some y) : Does PP GV 71 [] [(I a0)] [] [] (B y) := by
 unfold p_sum_odd at hy
 refine does_of at71 r (le_ok r) <| ?_
 rintro ⟨_, base, w0, F⟩ rfl
 refine reg 1 r <| asg r r r <| dn <| reg 7 r <| mv r r r <| bn r r r r r <| mv r r r <| cas 5 r (fun h1 => ?_) (fun h1 => ?_)
 ·replace hy := ifT hy h1
  refine sk r r <| sk r r <| pkt r r r r r <| asg r r r <| dn <| at_ret <| ?_
  replace hy := sj hy
  subst hy
  exact out1 r (.inl r) (look_of r) r (pu_B _)
 ·replace hy := ifF hy h1
  refine mv r r r <| bn r r r r r <| pkf r r r r r <| asg r r r <| dn <| at_ret <| ?_
  replace hy := sj hy
  subst hy
  exact out1 r (.inl r) (look_of r) r (pu_B _)
def p_coin_At (K : Nat) (a0 : (List Int)) (a1 : Int) : Option Int :=
 (bif (decide (a1 < 0)) then some 0 else (bif ((a0.length : Int) == 0) then some 0 else (nzP (a0.length : Int) ((ixP a0 (Int.tmod a1 (a0.length : Int)) fun v3 => some v3)))))
theorem w_coin_At {K : Nat} {a0 : (List Int)} {a1 : Int} {y : Int} (hy : p_coin_At K a0 a1 = some y) : Does PP GV 43 [] [((SL 1 (J .u32)) a0), (I a1)] [] [] ((J .u32) y) := by
 unfold p_coin_At at hy
 refine does_of at43 r (le_ok r) <| ?_
 rintro ⟨_, base, w0, F⟩ rfl
 refine reg 1 r <| asg r r r <| dn <| at_seq <| reg 7 r <| mv r r r <| bn r r r r r <| mv r r r <| cas 7 r (fun h1 => ?_) (fun h1 => ?_)
 ·replace hy := ifT hy h1
  refine sk r r <| sk r r <| sk r r <| pkt r r r r r <| dn <| cdt r <| reg 1 r <| asg r r r <| dn <| at_ret <| ?_
  replace hy := sj hy
  subst hy
  exact out1 r (.inl r) (look_of r) r (pu_J _ _)
 ·replace hy := ifF hy h1
  refine mv r r r <| lnf (f := (J .u32)) slB26 r r r <| bn r r r r r <| pkf r r r r r <| dn <| cd r (fun h2 => ?_) (fun h2 => ?_)
  ·replace hy := ifT hy h2
   refine reg 1 r <| asg r r r <| dn <| at_ret <| ?_
   replace hy := sj hy
   subst hy
   exact out1 r (.inl r) (look_of r) r (pu_J _ _)
  ·replace hy := ifF hy h2
   refine at_skip <| reg 8 r <| mv r r r <| mv r r r <| mv r r r <| lnf (f := (J .u32)) slB26 r r r <| ?_
   obtain ⟨k1, hy⟩ := nzI hy
   refine rm r r r r k1 <| ?_
   obtain ⟨i2, v3, qi2, xv3, hy⟩ := ixI hy
   refine fixP (f := (J .u32)) sl26 qi2 xv3 r r r r <| fld tk54 r r r r <| asg r r r <| dn <| at_ret <| ?_
   replace hy := sj hy
   subst hy
   exact out1 r (.inl r) (look_of r) r (pu_J _ _)
def p_level_sized (K : Nat) (a0 : Int) : Option Bool :=
 (bif (decide (a0 ≥ 1)) then some (decide (a0 ≤ 64)) else some false)
theorem w_level_sized {K : Nat} {a0 : Int} {y : Bool} (hy : p_level_sized K a0 = some y) : Does PP GV 86 [] [(I a0)] [] [] (B y) := by
 unfold p_level_sized at hy
 refine does_of at86 r (le_ok r) <| ?_
 rintro ⟨_, base, w0, F⟩ rfl
 refine reg 1 r <| asg r r r <| dn <| reg 7 r <| mv r r r <| bn r r r r r <| mv r r r <| cas 5 r (fun h1 => ?_) (fun h1 => ?_)
 ·replace hy := ifT hy h1
  refine mv r r r <| bn r r r r r <| pkt r r r r r <| asg r r r <| dn <| at_ret <| ?_
  replace hy := sj hy
  subst hy
  exact out1 r (.inl r) (look_of r) r (pu_B _)
 ·replace hy := ifF hy h1
  refine sk r r <| sk r r <| pkf r r r r r <| asg r r r <| dn <| at_ret <| ?_
  replace hy := sj hy
  subst hy
  exact out1 r (.inl r) (look_of r) r (pu_B _)
def p_level_compare (K : Nat) (a0 : Ti) (a1 : Ti) : Option Int :=
 ((p_cmp_Compare_int K a0.u a1.u).bind fun r1 => ((p_cmp_Compare_int K a0.v a1.v).bind fun r2 => ((p_cmp_Or_int K [r1, r2]).bind fun r3 => some r3)))
theorem w_level_compare {K : Nat} {a0 : Ti} {a1 : Ti} {y : Int} (hy : p_level_compare K a0 a1 = some y) : Does PP GV 88 [] [(TiA a0), (TiA a1)] [] [] (I y) := by
 unfold p_level_compare at hy
 refine does_of at88 r (le_ok r) <| ?_
 rintro ⟨_, base, w0, F⟩ rfl
 refine reg 3 r <| bx 1 r r r r <| bx 2 r r r r <| asg r r r <| dn <| regd mixed 13 r <| fa fo45_0 r r r <| ld tk3 r r r r r r <| fa fo45_0 r r r <| ld tk3 r r r r r r <| ?_
 obtain ⟨r1, qr1, hy⟩ := bndI hy
 refine clp (w_cmp_Compare_int qr1) ca59 r r (.cons (pu_I _) (.cons (pu_I _) (.nil))) (.one (pu_I _)) r <| fa fo45_1 r r r <| ld tk3 r r r r r r <| fa fo45_1 r r r <| ld tk3 r r r r r r <| ?_
 obtain ⟨r2, qr2, hy⟩ := bndI hy
 refine clp (w_cmp_Compare_int qr2) ca59 r r (.cons (pu_I _) (.cons (pu_I _) (.nil))) (.one (pu_I _)) r <| bldsF I ([r1, r2] : List Int) 3 pu_I se29 r r r r r r r <| ?_
 obtain ⟨r3, qr3, hy⟩ := bndI hy
 refine clp (w_cmp_Or_int qr3) ca58 r r (.cons ((pu_l 1 pu_I) _) (.nil)) (.one (pu_I _)) r <| asg r r r <| dn ⟨by kernel_rfl, ?_⟩
 refine at_ret <| ?_
 replace hy := sj hy
 subst hy
 exact out1 r (.inl r) (look_of r) r (pu_I _)
def p_level_trees_L1 (K : Nat) (a0 : Gr) (a1 : Int) : Nat → Int → (List Ed) → Option (List Ed)
 | 0, _, _ => none
 | n+1, v11_1, l1005_1 => (bif (decide (v11_1 < (a0.ties.length : Int))) then (ixP a0.ties v11_1 fun v2 => (bif v2.tree then (bif (decide (v2.level ≥ a1)) then (apP 16 l1005_1.length [(Ed.mk v2.u v2.v)].length (p_level_trees_L1 K a0 a1 n (w64 (v11_1 + 1)) (l1005_1 ++ [(Ed.mk v2.u v2.v)]))) else p_level_trees_L1 K a0 a1 n (w64 (v11_1 + 1)) l1005_1) else p_level_trees_L1 K a0 a1 n (w64 (v11_1 + 1)) l1005_1)) else some l1005_1)
def p_level_trees (K : Nat) (a0 : Gr) (a1 : Int) : Option (List Ed) :=
 ((p_level_trees_L1 K a0 a1 K 0 [] : Option (List Ed)).bind fun l1005_2 => some l1005_2)
theorem w_level_trees {K : Nat} {a0 : Gr} {a1 : Int} {y : (List Ed)} (hy : p_level_trees K a0 a1 = some y) : Does PP GV 62 [] [(GrA a0), (I a1)] [] [] ((SL 2 EdA) y) := by
 unfold p_level_trees at hy
 refine does_of at62 r (le_ok r) <| ?_
 rintro ⟨_, base, w0, F⟩ rfl
 refine reg 2 r <| bx 1 r r r r <| asg r r r <| dn <| reg 1 r <| asg r r r <| dn <| ?_
 obtain ⟨o1, hy, k1, hk1, hc1⟩ := bndK hy
 refine meetI (fun (p : (List Ed) × Nat) => match p with | (l1005_2, g1005_1) => mk [(5, .own 1005 g1005_1 2 0 (l1005_2).length false)] [(1005, some (g1005_1, .buf 2 (l1005_2.map EdA)))]) (fun p => match p with | (l1005_2, g1005_1) => k1 l1005_2 = some y) ?_ ?_
 ·skip
  refine reg 4 r <| fa fo24_1 r r r <| ld tk22 r r r r r r <| lnf (f := TiA) slB22 r r r <| mv r r r <| dn <| at_block <| niloP (EdA) 5 1005 2 r <| wk (T' := [(1, (I a1)), (5, .own 1005 _ 2 0 ([]).length false), (9, ((SL 4 TiA) a0.ties)), (10, (I (a0.ties.length : Int))), (11, (I 0))]) (H' := [(1005, some (_, .buf 2 ([].map EdA)))]) (.k r r (.k r r (.k r r (.k r r (.k r r .nil))))) (.k r r .nil) <| loopI (fun (p : Nat × Int × (List Ed) × Nat) => match p with | (n2, v11_1, l1005_1, g1005_2) => mk [(1, (I a1)), (5, .own 1005 g1005_2 2 0 (l1005_1).length false), (9, ((SL 4 TiA) a0.ties)), (10, (I (a0.ties.length : Int))), (11, (I v11_1))] [(1005, some (g1005_2, .buf 2 (l1005_1.map EdA)))]) (fun p => match p with | (n2, v11_1, l1005_1, g1005_2) => p_level_trees_L1 K a0 a1 n2 v11_1 l1005_1 = some o1) (fun p => p.1) ?_ (K, 0, [], _) hy _
  rintro ⟨n2, v11_1, l1005_1, g1005_2⟩ cl hy
  cases n2 with | zero => cases hy | succ n2 => ?_
  change At _ cl (mk _ _) _
  replace hy : p_level_trees_L1 K a0 a1 (n2+1) v11_1 l1005_1 = some o1 := hy
  rw [p_level_trees_L1] at hy
  refine reg 1 r <| bn r r r r r <| dn <| at_seq <| cd r (fun h3 => ?_) (fun h3 => ?_)
  ·replace hy := ifT hy h3
   refine at_skip <| at_seq <| at_block <| reg 4 r <| ?_
   obtain ⟨i1, v2, qi1, xv2, hy⟩ := ixI hy
   refine fixP (f := TiA) sl22 qi1 xv2 r r r r <| fldw tk45 r r r r <| rg_alloc (s := 2) (gd_of r) zc45 (elems_one (by rfl)) (lt_ok r) <| str tk45 r r r r r r r <| dn <| reg 8 r <| fa fo45_3 r r r <| ld tk4 r r r r r r <| mv r r r <| cas 17 r (fun h4 => ?_) (fun h4 => ?_)
   ·replace hy := ifT hy h4
    refine fa fo45_2 r r r <| ld tk3 r r r r r r <| mv r r r <| bn r r r r r <| pkt r r r r r <| dn <| cd r (fun h5 => ?_) (fun h5 => ?_)
    ·replace hy := ifT hy h5
     refine reg1 9 r <| mv r r r <| fa fo45_0 r r r <| ld tk3 r r r r r r <| fa fo45_1 r r r <| ld tk3 r r r r r r <| bld bd47 r r r r <| bldsP EdA ([(Ed.mk v2.u v2.v)] : List Ed) 3 se41 r r r r r r r <| ?_
     obtain ⟨k3a, k3b, hy⟩ := apI hy
     refine apoP (f := EdA) (l := l1005_1) (zs := [(Ed.mk v2.u v2.v)]) se41 k3a k3b r r r r r r <| asg r r r <| dn <| at_bn <| reg1 2 r <| bn r r r r r <| mv r r r <| dn <| againI (n2, (w64 (v11_1 + 1)), (l1005_1 ++ [(Ed.mk v2.u v2.v)]), _) r hy (Nat.lt_succ_self _) (.k r r (.k r r (.k r r (.k r r (.k r r .nil))))) (.k r r .nil)
    ·replace hy := ifF hy h5
     refine at_skip <| at_bn <| reg1 2 r <| bn r r r r r <| mv r r r <| dn <| againI (n2, (w64 (v11_1 + 1)), l1005_1, _) r hy (Nat.lt_succ_self _) (.k r r (.k r r (.k r r (.k r r (.k r r .nil))))) (.k r r .nil)
   ·replace hy := ifF hy h4
    refine sk r r <| sk r r <| sk r r <| sk r r <| pkf r r r r r <| dn <| cdf r <| at_skip <| at_bn <| reg1 2 r <| bn r r r r r <| mv r r r <| dn <| againI (n2, (w64 (v11_1 + 1)), l1005_1, _) r hy (Nat.lt_succ_self _) (.k r r (.k r r (.k r r (.k r r (.k r r .nil))))) (.k r r .nil)
  ·replace hy := ifF hy h3
   refine at_exit <| at_te <| at_te <| at_inBlock <| ?_
   replace hy := sj hy
   subst hy
   refine metI (l1005_1, _) r hc1 (.k r r .nil) (.k r r .nil)
 ·rintro ⟨l1005_2, g1005_1⟩ cl hy
  subst hk1
  change At _ cl (mk _ _) _
  refine reg 2 r <| mv r r r <| asg r r r <| dn <| at_ret <| frzP (f := EdA) (l := l1005_2) 4 1005 r r pu_Ed <| ?_
  replace hy := sj hy
  subst hy
  exact out1 r (.inl r) (look_of r) r ((pu_l 2 pu_Ed) _)
def p_tour_with_1 (K : Nat) (a0 : (List Int)) (a1 : (List Int)) : Option Int :=
 (ixP a0 0 fun v2 => (ixP a1 0 fun v4 => ((p_cmp_Compare_int K v2 v4).bind fun r5 => some r5)))
theorem w_tour_with_1 {K : Nat} {a0 : (List Int)} {a1 : (List Int)} {y : Int} (hy : p_tour_with_1 K a0 a1 = some y) : Does PP GV 146 [] [((SL 1 I) a0), ((SL 1 I) a1)] [] [] (I y) := by
 unfold p_tour_with_1 at hy
 refine does_of at146 r (le_ok r) <| ?_
 rintro ⟨_, base, w0, F⟩ rfl
 refine reg 1 r <| asg r r r <| dn <| regd mixed 8 r <| mv r r r <| ?_
 obtain ⟨i1, v2, qi1, xv2, hy⟩ := ixI hy
 refine fixP (f := I) sl29 qi1 xv2 r r r r <| fld tk3 r r r r <| mv r r r <| ?_
 obtain ⟨i3, v4, qi3, xv4, hy⟩ := ixI hy
 refine fixP (f := I) sl29 qi3 xv4 r r r r <| fld tk3 r r r r <| ?_
 obtain ⟨r5, qr5, hy⟩ := bndI hy
 refine clp (w_cmp_Compare_int qr5) ca59 r r (.cons (pu_I _) (.cons (pu_I _) (.nil))) (.one (pu_I _)) r <| asg r r r <| dn ⟨by kernel_rfl, ?_⟩
 refine at_ret <| ?_
 replace hy := sj hy
 subst hy
 exact out1 r (.inl r) (look_of r) r (pu_I _)
end Go.Ar
namespace Go.Ar
open Go.RowKit
def p_math_bits_Len64 (K : Nat) (a0 : Int) : Option Int :=
 (((bif (decide (a0 ≥ 4294967296)) then some ((shrV .u64 a0 32), 32) else some (a0, 0)) : Option (Int × Int)).bind fun (v0_1, v2_1) => (((bif (decide (v0_1 ≥ 65536)) then some ((shrV .u64 v0_1 16), (w64 (v2_1 + 16))) else some (v0_1, v2_1)) : Option (Int × Int)).bind fun (v0_2, v2_2) => (((bif (decide (v0_2 ≥ 256)) then some ((shrV .u64 v0_2 8), (w64 (v2_2 + 8))) else some (v0_2, v2_2)) : Option (Int × Int)).bind fun (v0_3, v2_3) => (ixP strTab1 (IntKind.u8.wrap v0_3) fun v2 => some (w64 (v2_3 + (w64 v2)))))))
theorem w_math_bits_Len64 {K : Nat} {a0 : Int} {y : Int} (hy : p_math_bits_Len64 K a0 = some y) : Does PP GV 111 [] [((J .u64) a0)] [] [] (I y) := by
 unfold p_math_bits_Len64 at hy
 refine does_of at111 r (le_ok r) <| ?_
 rintro ⟨_, base, w0, F⟩ rfl
 refine reg 1 r <| asg r r r <| dn <| ?_
 obtain ⟨o1, hy, k1, hk1, hc1⟩ := bndK hy
 refine meetI (fun (p : Int × Int) => match p with | (v0_1, v2_1) => mk [(0, ((J .u64) v0_1)), (2, (I v2_1))] []) (fun p => match p with | (v0_1, v2_1) => k1 (v0_1, v2_1) = some y) ?_ ?_
 ·skip
  refine reg 2 r <| mv r r r <| bn r r r r r <| dn <| cd r (fun h2 => ?_) (fun h2 => ?_)
  ·replace hy := ifT hy h2
   refine reg 3 r <| mv r r r <| shr r r r r (by decide) <| asg r r r <| dn <| reg1 1 r <| asg r r r <| dn <| ?_
   replace hy := sj hy
   subst hy
   refine metI ((shrV .u64 a0 32), 32) r hc1 (.k r r (.k r r .nil)) .nil
  ·replace hy := ifF hy h2
   refine at_skip <| ?_
   replace hy := sj hy
   subst hy
   refine metI (a0, 0) r hc1 (.k r r (.k r r .nil)) .nil
 ·rintro ⟨v0_1, v2_1⟩ cl hy
  subst hk1
  change At _ cl (mk _ _) _
  obtain ⟨o2, hy, k2, hk2, hc2⟩ := bndK hy
  refine meetI (fun (p : Int × Int) => match p with | (v0_2, v2_2) => mk [(0, ((J .u64) v0_2)), (2, (I v2_2))] []) (fun p => match p with | (v0_2, v2_2) => k2 (v0_2, v2_2) = some y) ?_ ?_
  ·skip
   refine reg 2 r <| mv r r r <| bn r r r r r <| dn <| cd r (fun h3 => ?_) (fun h3 => ?_)
   ·replace hy := ifT hy h3
    refine reg 3 r <| mv r r r <| shr r r r r (by decide) <| asg r r r <| dn <| reg1 3 r <| mv r r r <| bn r r r r r <| asg r r r <| dn <| ?_
    replace hy := sj hy
    subst hy
    refine metI ((shrV .u64 v0_1 16), (w64 (v2_1 + 16))) r hc2 (.k r r (.k r r .nil)) .nil
   ·replace hy := ifF hy h3
    refine at_skip <| ?_
    replace hy := sj hy
    subst hy
    refine metI (v0_1, v2_1) r hc2 (.k r r (.k r r .nil)) .nil
  ·rintro ⟨v0_2, v2_2⟩ cl hy
   subst hk2
   change At _ cl (mk _ _) _
   obtain ⟨o3, hy, k3, hk3, hc3⟩ := bndK hy
   refine meetI (fun (p : Int × Int) => match p with | (v0_3, v2_3) => mk [(0, ((J .u64) v0_3)), (2, (I v2_3))] []) (fun p => match p with | (v0_3, v2_3) => k3 (v0_3, v2_3) = some y) ?_ ?_
   ·skip
    refine reg 2 r <| mv r r r <| bn r r r r r <| dn <| cd r (fun h4 => ?_) (fun h4 => ?_)
    ·replace hy := ifT hy h4
     refine reg 3 r <| mv r r r <| shr r r r r (by decide) <| asg r r r <| dn <| reg1 3 r <| mv r r r <| bn r r r r r <| asg r r r <| dn <| ?_
     replace hy := sj hy
     subst hy
     refine metI ((shrV .u64 v0_2 8), (w64 (v2_2 + 8))) r hc3 (.k r r (.k r r .nil)) .nil
    ·replace hy := ifF hy h4
     refine at_skip <| ?_
     replace hy := sj hy
     subst hy
     refine metI (v0_2, v2_2) r hc3 (.k r r (.k r r .nil)) .nil
   ·rintro ⟨v0_3, v2_3⟩ cl hy
    subst hk3
    change At _ cl (mk _ _) _
    refine reg 7 r <| mv r r r <| mv r r r <| rg_conv (gd_of r) (ev_of r) us130 ui5 (lt_ok r) <| ?_
    obtain ⟨i1, v2, qi1, xv2, hy⟩ := ixI hy
    refine ixS (l := strTab1) uz9 qi1 xv2 (by kernel_rfl) r r r <| rg_conv (gd_of r) (ev_of r) us5 ui3 (lt_ok r) <| bn r r r r r <| asg r r r <| dn <| at_ret <| ?_
    replace hy := sj hy
    subst hy
    exact out1 r (.inl r) (look_of r) r (pu_I _)
def p_math_bits_Len (K : Nat) (a0 : Int) : Option Int :=
 ((p_math_bits_Len64 K a0).bind fun r1 => some r1)
theorem w_math_bits_Len {K : Nat} {a0 : Int} {y : Int} (hy : p_math_bits_Len K a0 = some y) : Does PP GV 84 [] [((J .u64) a0)] [] [] (I y) := by
 unfold p_math_bits_Len at hy
 refine does_of at84 r (le_ok r) <| ?_
 rintro ⟨_, base, w0, F⟩ rfl
 refine reg 1 r <| asg r r r <| dn <| at_seq <| at_condc (fun h => ?_) (fun _ => ?_)
 ·cases h
 skip
 refine at_skip <| reg 3 r <| mv r r r <| ?_
 obtain ⟨r1, qr1, hy⟩ := bndI hy
 refine clp (w_math_bits_Len64 qr1) ca111 r r (.cons (pu_J _ _) (.nil)) (.one (pu_I _)) r <| asg r r r <| dn <| at_ret <| ?_
 replace hy := sj hy
 subst hy
 exact out1 r (.inl r) (look_of r) r (pu_I _)
def p_math_bits_TrailingZeros32 (K : Nat) (a0 : Int) : Option Int :=
 (bif (a0 == 0) then some 32 else (bdP 32 (shrV .u32 (IntKind.u32.wrap ((andV .u32 a0 (IntKind.u32.wrap (0 - a0))) * 125613361)) 27) fun i1 => gtP deB32L i1 fun v2 => some (w64 v2)))
theorem w_math_bits_TrailingZeros32 {K : Nat} {a0 : Int} {y : Int} (hy : p_math_bits_TrailingZeros32 K a0 = some y) : Does PP GV 69 [] [((J .u32) a0)] [] [] (I y) := by
 unfold p_math_bits_TrailingZeros32 at hy
 refine does_of at69 r (le_ok r) <| ?_
 rintro ⟨_, base, w0, F⟩ rfl
 refine reg 1 r <| asg r r r <| dn <| at_seq <| reg 2 r <| mv r r r <| bn r r r r r <| dn <| cd r (fun h1 => ?_) (fun h1 => ?_)
 ·replace hy := ifT hy h1
  refine reg 1 r <| asg r r r <| dn <| at_ret <| ?_
  replace hy := sj hy
  subst hy
  exact out1 r (.inl r) (look_of r) r (pu_I _)
 ·replace hy := ifF hy h1
  refine at_skip <| reg 10 r <| mv r r r <| mv r r r <| ng r r r <| bn2 r r r r r <| bn r r r r r <| shr r r r r (by decide) <| ?_
  obtain ⟨i1, qi1, bi1, hy⟩ := bdI hy
  obtain ⟨v2, xv2, hy⟩ := gtI hy
  refine ixG (f := (J .u8)) (l := deB32L) (List.Mem.head _) r r ar120 qi1 bi1 xv2 r r r <| fld tk5 r r r r <| rg_conv (gd_of r) (ev_of r) us5 ui3 (lt_ok r) <| asg r r r <| dn <| at_ret <| ?_
  replace hy := sj hy
  subst hy
  exact out1 r (.inl r) (look_of r) r (pu_I _)
def p_coin_Height (K : Nat) (a0 : Int) : Option Int :=
 ((p_math_bits_TrailingZeros32 K a0).bind fun r1 => some (if 8 < (w64 (r1 + 1)) then 8 else (w64 (r1 + 1))))
theorem w_coin_Height {K : Nat} {a0 : Int} {y : Int} (hy : p_coin_Height K a0 = some y) : Does PP GV 42 [] [((J .u32) a0)] [] [] (I y) := by
 unfold p_coin_Height at hy
 refine does_of at42 r (le_ok r) <| ?_
 rintro ⟨_, base, w0, F⟩ rfl
 refine reg 1 r <| asg r r r <| dn <| reg 5 r <| mv r r r <| ?_
 obtain ⟨r1, qr1, hy⟩ := bndI hy
 refine clp (w_math_bits_TrailingZeros32 qr1) ca69 r r (.cons (pu_J _ _) (.nil)) (.one (pu_I _)) r <| bn r r r r r <| rg_min (gd_of r) (ev_of r) (ev_of r) (lt_ok r) <| asg r r r <| dn <| at_ret <| ?_
 replace hy := sj hy
 subst hy
 exact out1 r (.inl r) (look_of r) r (pu_I _)
def p_tower_Heights_L1 (K : Nat) (a0 : (List Int)) (a1 : (List Int)) : Nat → Int → (List Int) → Option (List Int)
 | 0, _, _ => none
 | n+1, v10_2, l1005_2 => (bif (decide (v10_2 < (a0.length : Int))) then (((ixP a0 v10_2 fun v2 => (bif (decide (v2 < 0)) then (apP 8 l1005_2.length [1].length (some (l1005_2 ++ [1]))) else ((p_coin_At K a1 v2).bind fun r4 => ((p_coin_Height K r4).bind fun r5 => (apP 8 l1005_2.length [r5].length (some (l1005_2 ++ [r5]))))))) : Option (List Int)).bind fun l1005_1 => p_tower_Heights_L1 K a0 a1 n (w64 (v10_2 + 1)) l1005_1) else some l1005_2)
def p_tower_Heights (K : Nat) (a0 : (List Int)) (a1 : (List Int)) : Option (List Int) :=
 ((p_tower_Heights_L1 K a0 a1 K 0 [] : Option (List Int)).bind fun l1005_3 => some l1005_3)
theorem w_tower_Heights {K : Nat} {a0 : (List Int)} {a1 : (List Int)} {y : (List Int)} (hy : p_tower_Heights K a0 a1 = some y) : Does PP GV 19 [] [((SL 1 I) a0), ((SL 1 (J .u32)) a1)] [] [] ((SL 1 I) y) := by
 unfold p_tower_Heights at hy
 refine does_of at19 r (le_ok r) <| ?_
 rintro ⟨_, base, w0, F⟩ rfl
 refine reg 1 r <| asg r r r <| dn <| reg 1 r <| asg r r r <| dn <| ?_
 obtain ⟨o1, hy, k1, hk1, hc1⟩ := bndK hy
 refine meetI (fun (p : (List Int) × Nat) => match p with | (l1005_3, g1005_1) => mk [(5, .own 1005 g1005_1 1 0 (l1005_3).length false)] [(1005, some (g1005_1, .buf 1 (l1005_3.map I)))]) (fun p => match p with | (l1005_3, g1005_1) => k1 l1005_3 = some y) ?_ ?_
 ·skip
  refine reg 3 r <| mv r r r <| lnf (f := I) slB29 r r r <| mv r r r <| dn <| at_block <| niloP (I) 5 1005 1 r <| wk (T' := [(1, ((SL 1 (J .u32)) a1)), (5, .own 1005 _ 1 0 ([]).length false), (8, ((SL 1 I) a0)), (9, (I (a0.length : Int))), (10, (I 0))]) (H' := [(1005, some (_, .buf 1 ([].map I)))]) (.k r r (.k r r (.k r r (.k r r (.k r r .nil))))) (.k r r .nil) <| loopI (fun (p : Nat × Int × (List Int) × Nat) => match p with | (n2, v10_2, l1005_2, g1005_2) => mk [(1, ((SL 1 (J .u32)) a1)), (5, .own 1005 g1005_2 1 0 (l1005_2).length false), (8, ((SL 1 I) a0)), (9, (I (a0.length : Int))), (10, (I v10_2))] [(1005, some (g1005_2, .buf 1 (l1005_2.map I)))]) (fun p => match p with | (n2, v10_2, l1005_2, g1005_2) => p_tower_Heights_L1 K a0 a1 n2 v10_2 l1005_2 = some o1) (fun p => p.1) ?_ (K, 0, [], _) hy _
  rintro ⟨n2, v10_2, l1005_2, g1005_2⟩ cl hy
  cases n2 with | zero => cases hy | succ n2 => ?_
  change At _ cl (mk _ _) _
  replace hy : p_tower_Heights_L1 K a0 a1 (n2+1) v10_2 l1005_2 = some o1 := hy
  rw [p_tower_Heights_L1] at hy
  refine reg 1 r <| bn r r r r r <| dn <| at_seq <| cd r (fun h3 => ?_) (fun h3 => ?_)
  ·replace hy := ifT hy h3
   refine at_skip <| ?_
   obtain ⟨o3, hy, k3, hk3, hc3⟩ := bndK hy
   refine meetI (fun (p : (List Int) × Nat) => match p with | (l1005_1, g1005_3) => mk [(1, ((SL 1 (J .u32)) a1)), (5, .own 1005 g1005_3 1 0 (l1005_1).length false), (8, ((SL 1 I) a0)), (9, (I (a0.length : Int))), (10, (I v10_2))] [(1005, some (g1005_3, .buf 1 (l1005_1.map I)))]) (fun p => match p with | (l1005_1, g1005_3) => k3 l1005_1 = some o1) ?_ ?_
   ·skip
    refine at_block <| reg 3 r <| ?_
    obtain ⟨i1, v2, qi1, xv2, hy⟩ := ixI hy
    refine fixP (f := I) sl29 qi1 xv2 r r r r <| fld tk3 r r r r <| asg r r r <| dn <| at_seq <| reg 2 r <| mv r r r <| bn r r r r r <| dn <| cd r (fun h5 => ?_) (fun h5 => ?_)
    ·replace hy := ifT hy h5
     refine reg 4 r <| mv r r r <| bldsP I ([1] : List Int) 1 se29 r r r r r r r <| ?_
     obtain ⟨k3a, k3b, hy⟩ := apI hy
     refine apoP (f := I) (l := l1005_2) (zs := [1]) se29 k3a k3b r r r r r r <| asg r r r <| dn <| at_exit <| at_te <| at_inBlock <| ?_
     replace hy := sj hy
     subst hy
     refine metI ((l1005_2 ++ [1]), _) r hc3 (.k r r (.k r r (.k r r (.k r r (.k r r .nil))))) (.k r r .nil)
    ·replace hy := ifF hy h5
     refine at_skip <| reg1 8 r <| mv r r r <| mv r r r <| mv r r r <| ?_
     obtain ⟨r4, qr4, hy⟩ := bndI hy
     refine clp (w_coin_At qr4) ca43 r r (.cons ((pu_l 1 (pu_J _)) _) (.cons (pu_I _) (.nil))) (.one (pu_J _ _)) r <| ?_
     obtain ⟨r5, qr5, hy⟩ := bndI hy
     refine clp (w_coin_Height qr5) ca42 r r (.cons (pu_J _ _) (.nil)) (.one (pu_I _)) r <| bldsP I ([r5] : List Int) 2 se29 r r r r r r r <| ?_
     obtain ⟨k6a, k6b, hy⟩ := apI hy
     refine apoP (f := I) (l := l1005_2) (zs := [r5]) se29 k6a k6b r r r r r r <| asg r r r <| dn <| at_bn <| ?_
     replace hy := sj hy
     subst hy
     refine metI ((l1005_2 ++ [r5]), _) r hc3 (.k r r (.k r r (.k r r (.k r r (.k r r .nil))))) (.k r r .nil)
   ·rintro ⟨l1005_1, g1005_3⟩ cl hy
    subst hk3
    change At _ cl (mk _ _) _
    refine reg1 2 r <| bn r r r r r <| mv r r r <| dn <| againI (n2, (w64 (v10_2 + 1)), l1005_1, _) r hy (Nat.lt_succ_self _) (.k r r (.k r r (.k r r (.k r r (.k r r .nil))))) (.k r r .nil)
  ·replace hy := ifF hy h3
   refine at_exit <| at_te <| at_te <| at_inBlock <| ?_
   replace hy := sj hy
   subst hy
   refine metI (l1005_2, _) r hc1 (.k r r .nil) (.k r r .nil)
 ·rintro ⟨l1005_3, g1005_1⟩ cl hy
  subst hk1
  change At _ cl (mk _ _) _
  refine reg 2 r <| mv r r r <| asg r r r <| dn <| at_ret <| frzP (f := I) (l := l1005_3) 4 1005 r r pu_I <| ?_
  replace hy := sj hy
  subst hy
  exact out1 r (.inl r) (look_of r) r ((pu_l 1 pu_I) _)
def p_level_Top (K : Nat) (a0 : Int) : Option Int :=
 ((p_level_sized K a0).bind fun r1 => (bif (!r1) then some 0 else ((p_math_bits_Len K (IntKind.u64.wrap (w64 (a0 - 1)))).bind fun r2 => some r2)))
theorem w_level_Top {K : Nat} {a0 : Int} {y : Int} (hy : p_level_Top K a0 = some y) : Does PP GV 87 [] [(I a0)] [] [] (I y) := by
 unfold p_level_Top at hy
 refine does_of at87 r (le_ok r) <| ?_
 rintro ⟨_, base, w0, F⟩ rfl
 refine reg 1 r <| asg r r r <| dn <| at_seq <| reg 3 r <| mv r r r <| ?_
 obtain ⟨r1, qr1, hy⟩ := bndI hy
 refine clp (w_level_sized qr1) ca86 r r (.cons (pu_I _) (.nil)) (.one (pu_B _)) r <| nt r r r <| dn <| cd r (fun h1 => ?_) (fun h1 => ?_)
 ·replace hy := ifT hy h1
  refine reg 1 r <| asg r r r <| dn <| at_ret <| ?_
  replace hy := sj hy
  subst hy
  exact out1 r (.inl r) (look_of r) r (pu_I _)
 ·replace hy := ifF hy h1
  refine at_skip <| reg 5 r <| mv r r r <| bn r r r r r <| rg_conv (gd_of r) (ev_of r) us3 ui76 (lt_ok r) <| ?_
  obtain ⟨r2, qr2, hy⟩ := bndI hy
  refine clp (w_math_bits_Len qr2) ca84 r r (.cons (pu_J _ _) (.nil)) (.one (pu_I _)) r <| asg r r r <| dn <| at_ret <| ?_
  replace hy := sj hy
  subst hy
  exact out1 r (.inl r) (look_of r) r (pu_I _)
def p_slices_insertionSortCmpFunc_api_Edge_L2 (K : Nat) (a1 : Int) (a3 : (Ed → Ed → Option Int)) : Nat → Int → (List Ed) → Option (List Ed)
 | 0, _, _ => none
 | n+1, v9_1, l0_1 => (bif (decide (v9_1 > a1)) then (bdP l0_1.length v9_1 fun i1 => gtP l0_1 i1 fun v2 => (bdP l0_1.length (w64 (v9_1 - 1)) fun i3 => gtP l0_1 i3 fun v4 => ((a3 v2 v4).bind fun r5 => (bif (decide (r5 < 0)) then (bdP l0_1.length (w64 (v9_1 - 1)) fun i6 => gtP l0_1 i6 fun v7 => (bdP l0_1.length v9_1 fun i8 => gtP l0_1 i8 fun v9 => (bdP l0_1.length v9_1 fun i10 => gtP l0_1 i10 fun v11 => (bdP l0_1.length (w64 (v9_1 - 1)) fun i12 => gtP (l0_1.set i10 v7) i12 fun v13 => p_slices_insertionSortCmpFunc_api_Edge_L2 K a1 a3 n (w64 (v9_1 - 1)) ((l0_1.set i10 v7).set i12 v9))))) else some l0_1)))) else some l0_1)
def p_slices_insertionSortCmpFunc_api_Edge_L1 (K : Nat) (a2 : Int) (a1 : Int) (a3 : (Ed → Ed → Option Int)) : Nat → Int → (List Ed) → Option (List Ed)
 | 0, _, _ => none
 | n+1, v8_3, l0_3 => (bif (decide (v8_3 < a2)) then ((p_slices_insertionSortCmpFunc_api_Edge_L2 K a1 a3 K v8_3 l0_3 : Option (List Ed)).bind fun l0_2 => p_slices_insertionSortCmpFunc_api_Edge_L1 K a2 a1 a3 n (w64 (v8_3 + 1)) l0_2) else some l0_3)
def p_slices_insertionSortCmpFunc_api_Edge (K : Nat) (a0 : (List Ed)) (a1 : Int) (a2 : Int) (a3 : (Ed → Ed → Option Int)) : Option (List Ed) :=
 p_slices_insertionSortCmpFunc_api_Edge_L1 K a2 a1 a3 K (w64 (a1 + 1)) a0
theorem w_slices_insertionSortCmpFunc_api_Edge {K : Nat} {a0 : (List Ed)} {a1 : Int} {a2 : Int} {a3 : (Ed → Ed → Option Int)} {y : (List Ed)} {a3f : FuncId} {a3s a3c : List AV} (a3h : ∀ {x0 : Ed} {x1 : Ed} {r : Int}, a3 x0 x1 = some r → Does PP GV a3f [] (a3s ++ [(EdA x0), (EdA x1)] ++ a3c) [] [] (I r)) (a3k : callable PP a3f = true) (a3l : a3s.all flat = true ∧ a3c.all flat = true) (a3p : PuL a3s) (a3q : PuL a3c) (hy : p_slices_insertionSortCmpFunc_api_Edge K a0 a1 a2 a3 = some y) : Does PP GV 102 [.buf 2 (a0.map EdA)] [.own 0 0 2 0 a0.length false, (I a1), (I a2), .fn (.func a3f) a3s a3c] [0] [.buf 2 (y.map EdA)] (.tup []) := by
 unfold p_slices_insertionSortCmpFunc_api_Edge at hy
 refine does_of at102 r (le_ok r) <| ?_
 rintro ⟨_, base, w0, F⟩ rfl
 refine reg 3 r <| mv r r r <| bn r r r r r <| asg r r r <| dn <| at_block <| wk (T' := [(0, .own 0 _ 2 0 (a0).length false), (1, (I a1)), (2, (I a2)), (3, .fn (.func a3f) a3s a3c), (8, (I (w64 (a1 + 1))))]) (H' := [(0, some (_, .buf 2 (a0.map EdA)))]) (.k r r (.k r r (.k r r (.k r r (.k r r .nil))))) (.k r r .nil) <| loopI (fun (p : Nat × Int × (List Ed)) => match p with | (n1, v8_3, l0_3) => mk [(0, .own 0 0 2 0 (l0_3).length false), (1, (I a1)), (2, (I a2)), (3, .fn (.func a3f) a3s a3c), (8, (I v8_3))] [(0, some (0, .buf 2 (l0_3.map EdA)))]) (fun p => match p with | (n1, v8_3, l0_3) => p_slices_insertionSortCmpFunc_api_Edge_L1 K a2 a1 a3 n1 v8_3 l0_3 = some y) (fun p => p.1) ?_ (K, (w64 (a1 + 1)), a0) hy _
 rintro ⟨n1, v8_3, l0_3⟩ cl hy
 cases n1 with | zero => cases hy | succ n1 => ?_
 change At _ cl (mk _ _) _
 replace hy : p_slices_insertionSortCmpFunc_api_Edge_L1 K a2 a1 a3 (n1+1) v8_3 l0_3 = some y := hy
 rw [p_slices_insertionSortCmpFunc_api_Edge_L1] at hy
 refine at_seq <| reg 3 r <| mv r r r <| mv r r r <| bn r r r r r <| dn <| cd r (fun h2 => ?_) (fun h2 => ?_)
 ·replace hy := ifT hy h2
  refine at_skip <| ?_
  obtain ⟨o2, hy, k2, hk2, hc2⟩ := bndK hy
  refine meetI (fun (p : (List Ed)) => match p with | l0_2 => mk [(0, .own 0 0 2 0 (l0_2).length false), (1, (I a1)), (2, (I a2)), (3, .fn (.func a3f) a3s a3c), (8, (I v8_3))] [(0, some (0, .buf 2 (l0_2.map EdA)))]) (fun p => match p with | l0_2 => k2 l0_2 = some y) ?_ ?_
  ·skip
   refine at_block <| reg 2 r <| mv r r r <| asg r r r <| dn <| at_block <| wk (T' := [(0, .own 0 _ 2 0 (l0_3).length false), (1, (I a1)), (2, (I a2)), (3, .fn (.func a3f) a3s a3c), (8, (I v8_3)), (9, (I v8_3))]) (H' := [(0, some (_, .buf 2 (l0_3.map EdA)))]) (.k r r (.k r r (.k r r (.k r r (.k r r (.k r r .nil)))))) (.k r r .nil) <| loopI (fun (p : Nat × Int × (List Ed)) => match p with | (n3, v9_1, l0_1) => mk [(0, .own 0 0 2 0 (l0_1).length false), (1, (I a1)), (2, (I a2)), (3, .fn (.func a3f) a3s a3c), (8, (I v8_3)), (9, (I v9_1))] [(0, some (0, .buf 2 (l0_1.map EdA)))]) (fun p => match p with | (n3, v9_1, l0_1) => p_slices_insertionSortCmpFunc_api_Edge_L2 K a1 a3 n3 v9_1 l0_1 = some o2) (fun p => p.1) ?_ (K, v8_3, l0_3) hy _
   rintro ⟨n3, v9_1, l0_1⟩ cl hy
   cases n3 with | zero => cases hy | succ n3 => ?_
   change At _ cl (mk _ _) _
   replace hy : p_slices_insertionSortCmpFunc_api_Edge_L2 K a1 a3 (n3+1) v9_1 l0_1 = some o2 := hy
   rw [p_slices_insertionSortCmpFunc_api_Edge_L2] at hy
   refine at_seq <| regd mixed 17 r <| mv r r r <| mv r r r <| bn r r r r r <| mv r r r <| cas 21 r (fun h5 => ?_) (fun h5 => ?_)
   ·replace hy := ifT hy h5
    refine mv r r r <| mv r r r <| mv r r r <| ?_
    obtain ⟨i1, qi1, bi1, hy⟩ := bdI hy
    obtain ⟨v2, xv2, hy⟩ := gtI hy
    refine ixP' sl41 qi1 bi1 r r r r <| ldP (f := EdA) tk47 xv2 r r r r r <| mv r r r <| mv r r r <| bn r r r r r <| ?_
    obtain ⟨i3, qi3, bi3, hy⟩ := bdI hy
    obtain ⟨v4, xv4, hy⟩ := gtI hy
    refine ixP' sl41 qi3 bi3 r r r r <| ldP (f := EdA) tk47 xv4 r r r r r <| ?_
    obtain ⟨r5, qr5, hy⟩ := bndI hy
    refine clv (a3h qr5) a3k r r r r a3l (puL3 a3p (.cons (pu_Ed _) (.cons (pu_Ed _) (.nil))) a3q) (.one (pu_I _)) r <| bn r r r r r <| pkt r r r r r <| dn ⟨by kernel_rfl, ?_⟩
    refine cd r (fun h6 => ?_) (fun h6 => ?_)
    ·replace hy := ifT hy h6
     refine at_skip <| at_seq <| at_block <| regd1 mixed 18 r <| mv r r r <| mv r r r <| mv r r r <| mv r r r <| bn r r r r r <| mv r r r <| mv r r r <| bn r r r r r <| ?_
     obtain ⟨i6, qi6, bi6, hy⟩ := bdI hy
     obtain ⟨v7, xv7, hy⟩ := gtI hy
     refine ixP' sl41 qi6 bi6 r r r r <| ldP (f := EdA) tk47 xv7 r r r r r <| mv r r r <| mv r r r <| ?_
     obtain ⟨i8, qi8, bi8, hy⟩ := bdI hy
     obtain ⟨v9, xv9, hy⟩ := gtI hy
     refine ixP' sl41 qi8 bi8 r r r r <| ldP (f := EdA) tk47 xv9 r r r r r <| ?_
     obtain ⟨i10, qi10, bi10, hy⟩ := bdI hy
     obtain ⟨v11, xv11, hy⟩ := gtI hy
     refine ixP' sl41 qi10 bi10 r r r r <| stP (f := EdA) (v7) tk47 xv11 r r r r r r <| ?_
     obtain ⟨i12, qi12, bi12, hy⟩ := bdI hy
     obtain ⟨v13, xv13, hy⟩ := gtI hy
     refine ixP' sl41 qi12 bi12 r r r r <| stP (f := EdA) (v9) tk47 xv13 r r r r r r <| dn ⟨by kernel_rfl, ?_⟩
     refine at_bn <| reg1 3 r <| mv r r r <| bn r r r r r <| asg r r r <| dn <| againI (n3, (w64 (v9_1 - 1)), ((l0_1.set i10 v7).set i12 v9)) r hy (Nat.lt_succ_self _) (.k r (by simp) (.k r r (.k r r (.k r r (.k r r (.k r r .nil)))))) (.k r r .nil)
    ·replace hy := ifF hy h6
     refine at_exit <| at_te <| at_te <| at_inBlock <| at_bn <| ?_
     replace hy := sj hy
     subst hy
     refine metI l0_1 r hc2 (.k r r (.k r r (.k r r (.k r r (.k r r .nil))))) (.k r r .nil)
   ·replace hy := ifF hy h5
    refine sk r r <| sk r r <| sk r r <| sk r r <| sk r r <| sk r r <| sk r r <| sk r r <| sk r r <| sk r r <| sk r r <| sk r r <| pkf r r r r r <| dn ⟨by kernel_rfl, ?_⟩
    refine cdf r <| at_exit <| at_te <| at_te <| at_inBlock <| at_bn <| ?_
    replace hy := sj hy
    subst hy
    refine metI l0_1 r hc2 (.k r r (.k r r (.k r r (.k r r (.k r r .nil))))) (.k r r .nil)
  ·rintro l0_2 cl hy
   subst hk2
   change At _ cl (mk _ _) _
   refine reg1 3 r <| mv r r r <| bn r r r r r <| asg r r r <| dn <| againI (n1, (w64 (v8_3 + 1)), l0_2) r hy (Nat.lt_succ_self _) (.k r r (.k r r (.k r r (.k r r (.k r r .nil))))) (.k r r .nil)
 ·replace hy := ifF hy h2
  refine at_exit <| at_te <| at_te <| at_inBlock <| ?_
  replace hy := sj hy
  subst hy
  exact outO0 (g1 := EdA) r (.inr r) r pu_Ed
def p_slices_pdqsortCmpFunc_api_Edge_L1 (K : Nat) (a2 : Int) (a1 : Int) (a0 : (List Ed)) (a4 : (Ed → Ed → Option Int)) (a3 : Int) : Nat → Option (List Ed)
 | 0 => none
 | n+1 => (bif (decide ((w64 (a2 - a1)) ≤ 12)) then ((p_slices_insertionSortCmpFunc_api_Edge K a0 a1 a2 a4).bind fun r1 => lenP a0 r1 (some r1)) else (bif (a3 == 0) then none else ((some () : Option Unit).bind fun _ => none)))
def p_slices_pdqsortCmpFunc_api_Edge (K : Nat) (a0 : (List Ed)) (a1 : Int) (a2 : Int) (a3 : Int) (a4 : (Ed → Ed → Option Int)) : Option (List Ed) :=
 p_slices_pdqsortCmpFunc_api_Edge_L1 K a2 a1 a0 a4 a3 K
theorem w_slices_pdqsortCmpFunc_api_Edge {K : Nat} {a0 : (List Ed)} {a1 : Int} {a2 : Int} {a3 : Int} {a4 : (Ed → Ed → Option Int)} {y : (List Ed)} {a4f : FuncId} {a4s a4c : List AV} (a4h : ∀ {x0 : Ed} {x1 : Ed} {r : Int}, a4 x0 x1 = some r → Does PP GV a4f [] (a4s ++ [(EdA x0), (EdA x1)] ++ a4c) [] [] (I r)) (a4k : callable PP a4f = true) (a4l : a4s.all flat = true ∧ a4c.all flat = true) (a4p : PuL a4s) (a4q : PuL a4c) (hy : p_slices_pdqsortCmpFunc_api_Edge K a0 a1 a2 a3 a4 = some y) : Does PP GV 83 [.buf 2 (a0.map EdA)] [.own 0 0 2 0 a0.length false, (I a1), (I a2), (I a3), .fn (.func a4f) a4s a4c] [0] [.buf 2 (y.map EdA)] (.tup []) := by
 unfold p_slices_pdqsortCmpFunc_api_Edge at hy
 refine does_of at83 r (le_ok r) <| ?_
 rintro ⟨_, base, w0, F⟩ rfl
 refine reg 1 r <| asg r r r <| dn <| reg 1 r <| asg r r r <| dn <| at_block <| wk (T' := [(0, .own 0 _ 2 0 (a0).length false), (1, (I a1)), (2, (I a2)), (3, (I a3)), (4, .fn (.func a4f) a4s a4c), (10, (B true)), (11, (B true))]) (H' := [(0, some (_, .buf 2 (a0.map EdA)))]) (.k r r (.k r r (.k r r (.k r r (.k r r (.k r r (.k r r .nil))))))) (.k r r .nil) <| loopI (fun (p : Nat) => mk [(0, .own 0 0 2 0 (a0).length false), (1, (I a1)), (2, (I a2)), (3, (I a3)), (4, .fn (.func a4f) a4s a4c), (10, (B true)), (11, (B true))] [(0, some (0, .buf 2 (a0.map EdA)))]) (fun p => p_slices_pdqsortCmpFunc_api_Edge_L1 K a2 a1 a0 a4 a3 p = some y) (fun p => p) ?_ K hy _
 rintro n1 cl hy
 cases n1 with | zero => cases hy | succ n1 => ?_
 change At _ cl (mk _ _) _
 replace hy : p_slices_pdqsortCmpFunc_api_Edge_L1 K a2 a1 a0 a4 a3 (n1+1)  = some y := hy
 rw [p_slices_pdqsortCmpFunc_api_Edge_L1] at hy
 refine at_block <| reg 4 r <| mv r r r <| mv r r r <| bn r r r r r <| asg r r r <| dn <| at_seq <| reg 2 r <| mv r r r <| bn r r r r r <| dn <| cd r (fun h2 => ?_) (fun h2 => ?_)
 ·replace hy := ifT hy h2
  refine reg 5 r <| mv r r r <| mv r r r <| mv r r r <| mv r r r <| ?_
  obtain ⟨r1, qr1, hy⟩ := bndI hy
  obtain ⟨tr1, hy⟩ := lenI hy
  refine clo1 (s := 0) (w_slices_insertionSortCmpFunc_api_Edge (a3h := a4h) (a3k := a4k) (a3l := a4l) (a3p := a4p) (a3q := a4q) qr1) ca102 r (.tup .nil) r r pu_Ed ?_ r ?_
  ·exact .cons _ _ _ _ (rnOwn (List.Mem.head _) (by first | rfl | simp)) (.cons _ _ _ _ (.pu _ (pu_I _)) (.cons _ _ _ _ (.pu _ (pu_I _)) (.cons _ _ _ _ (.pu _ (pu_fn a4p a4q)) (.nil))))
  refine teq 0 (y := .own 0 _ 2 0 r1.length false) r (by first | rw [tr1] | simp [tr1]) <| teq 26 (y := .own 0 _ 2 0 r1.length false) r (by first | rw [tr1] | simp [tr1]) <| dn <| at_ret <| ?_
  replace hy := sj hy
  subst hy
  exact outO0 (g1 := EdA) r (.inl r) r pu_Ed
 ·replace hy := ifF hy h2
  refine at_skip <| at_seq <| reg 2 r <| mv r r r <| bn r r r r r <| dn <| cd r (fun h3 => ?_) (fun h3 => ?_)
  ·replace hy := ifT hy h3
   refine reg 5 r <| mv r r r <| mv r r r <| mv r r r <| mv r r r <| ?_
   cases hy
  ·replace hy := ifF hy h3
   refine at_skip <| ?_
   obtain ⟨o2, hy, k2, hk2, hc2⟩ := bndK hy
   refine meetI (fun (p : Unit) => match p with | _ => mk [(0, .own 0 0 2 0 (a0).length false), (1, (I a1)), (2, (I a2)), (3, (I a3)), (4, .fn (.func a4f) a4s a4c), (10, (B true)), (11, (B true)), (12, (I (w64 (a2 - a1))))] [(0, some (0, .buf 2 (a0.map EdA)))]) (fun p => match p with | _ => k2 () = some y) ?_ ?_
   ·skip
    refine reg 2 r <| mv r r r <| nt r r r <| dn <| cdf r <| at_skip <| ?_
    replace hy := sj hy
    subst hy
    refine metI () r hc2 (.k r r (.k r r (.k r r (.k r r (.k r r (.k r r (.k r r (.k r r .nil)))))))) (.k r r .nil)
   ·rintro ⟨⟩ cl hy
    subst hk2
    change At _ cl (mk _ _) _
    refine reg 10 r <| mv r r r <| mv r r r <| mv r r r <| mv r r r <| ?_
    cases hy
def p_slices_SortFunc_Sapi_Edge_api_Edge (K : Nat) (a0 : (List Ed)) (a1 : (Ed → Ed → Option Int)) : Option (List Ed) :=
 ((p_math_bits_Len K (IntKind.u64.wrap (a0.length : Int))).bind fun r1 => ((p_slices_pdqsortCmpFunc_api_Edge K a0 0 (a0.length : Int) r1 a1).bind fun r2 => lenP a0 r2 (some r2)))
theorem w_slices_SortFunc_Sapi_Edge_api_Edge {K : Nat} {a0 : (List Ed)} {a1 : (Ed → Ed → Option Int)} {y : (List Ed)} {a1f : FuncId} {a1s a1c : List AV} (a1h : ∀ {x0 : Ed} {x1 : Ed} {r : Int}, a1 x0 x1 = some r → Does PP GV a1f [] (a1s ++ [(EdA x0), (EdA x1)] ++ a1c) [] [] (I r)) (a1k : callable PP a1f = true) (a1l : a1s.all flat = true ∧ a1c.all flat = true) (a1p : PuL a1s) (a1q : PuL a1c) (hy : p_slices_SortFunc_Sapi_Edge_api_Edge K a0 a1 = some y) : Does PP GV 56 [.buf 2 (a0.map EdA)] [.own 0 0 2 0 a0.length false, .fn (.func a1f) a1s a1c] [0] [.buf 2 (y.map EdA)] (.tup []) := by
 unfold p_slices_SortFunc_Sapi_Edge_api_Edge at hy
 refine does_of at56 r (le_ok r) <| ?_
 rintro ⟨_, base, w0, F⟩ rfl
 refine reg 3 r <| mv r r r <| lno slB41 r r r <| asg r r r <| dn <| reg1 7 r <| mv r r r <| mv r r r <| mv r r r <| rg_conv (gd_of r) (ev_of r) us3 ui76 (lt_ok r) <| ?_
 obtain ⟨r1, qr1, hy⟩ := bndI hy
 refine clp (w_math_bits_Len qr1) ca84 r r (.cons (pu_J _ _) (.nil)) (.one (pu_I _)) r <| mv r r r <| ?_
 obtain ⟨r2, qr2, hy⟩ := bndI hy
 obtain ⟨tr2, hy⟩ := lenI hy
 refine clo1 (s := 0) (w_slices_pdqsortCmpFunc_api_Edge (a4h := a1h) (a4k := a1k) (a4l := a1l) (a4p := a1p) (a4q := a1q) qr2) ca83 r (.tup .nil) r r pu_Ed ?_ r ?_
 ·exact .cons _ _ _ _ (rnOwn (List.Mem.head _) (by first | rfl | simp)) (.cons _ _ _ _ (.pu _ (pu_I _)) (.cons _ _ _ _ (.pu _ (pu_I _)) (.cons _ _ _ _ (.pu _ (pu_I _)) (.cons _ _ _ _ (.pu _ (pu_fn a1p a1q)) (.nil)))))
 refine teq 0 (y := .own 0 _ 2 0 r2.length false) r (by first | rw [tr2] | simp [tr2]) <| teq 5 (y := .own 0 _ 2 0 r2.length false) r (by first | rw [tr2] | simp [tr2]) <| teq 7 (y := .own 0 _ 2 0 r2.length false) r (by first | rw [tr2] | simp [tr2]) <| dn <| ?_
 replace hy := sj hy
 subst hy
 exact outO0 (g1 := EdA) r (.inr r) r pu_Ed
def p_slices_insertionSortCmpFunc_Sint_L2 (K : Nat) (a1 : Int) (a3 : ((List Int) → (List Int) → Option Int)) : Nat → Int → (List (List Int)) → Option (List (List Int))
 | 0, _, _ => none
 | n+1, v9_1, l0_1 => (bif (decide (v9_1 > a1)) then (bdP l0_1.length v9_1 fun i1 => gtP l0_1 i1 fun v2 => (bdP l0_1.length (w64 (v9_1 - 1)) fun i3 => gtP l0_1 i3 fun v4 => ((a3 v2 v4).bind fun r5 => (bif (decide (r5 < 0)) then (bdP l0_1.length (w64 (v9_1 - 1)) fun i6 => gtP l0_1 i6 fun v7 => (bdP l0_1.length v9_1 fun i8 => gtP l0_1 i8 fun v9 => (bdP l0_1.length v9_1 fun i10 => gtP l0_1 i10 fun v11 => (bdP l0_1.length (w64 (v9_1 - 1)) fun i12 => gtP (l0_1.set i10 v7) i12 fun v13 => p_slices_insertionSortCmpFunc_Sint_L2 K a1 a3 n (w64 (v9_1 - 1)) ((l0_1.set i10 v7).set i12 v9))))) else some l0_1)))) else some l0_1)
def p_slices_insertionSortCmpFunc_Sint_L1 (K : Nat) (a2 : Int) (a1 : Int) (a3 : ((List Int) → (List Int) → Option Int)) : Nat → Int → (List (List Int)) → Option (List (List Int))
 | 0, _, _ => none
 | n+1, v8_3, l0_3 => (bif (decide (v8_3 < a2)) then ((p_slices_insertionSortCmpFunc_Sint_L2 K a1 a3 K v8_3 l0_3 : Option (List (List Int))).bind fun l0_2 => p_slices_insertionSortCmpFunc_Sint_L1 K a2 a1 a3 n (w64 (v8_3 + 1)) l0_2) else some l0_3)
def p_slices_insertionSortCmpFunc_Sint (K : Nat) (a0 : (List (List Int))) (a1 : Int) (a2 : Int) (a3 : ((List Int) → (List Int) → Option Int)) : Option (List (List Int)) :=
 p_slices_insertionSortCmpFunc_Sint_L1 K a2 a1 a3 K (w64 (a1 + 1)) a0
theorem w_slices_insertionSortCmpFunc_Sint {K : Nat} {a0 : (List (List Int))} {a1 : Int} {a2 : Int} {a3 : ((List Int) → (List Int) → Option Int)} {y : (List (List Int))} {a3f : FuncId} {a3s a3c : List AV} (a3h : ∀ {x0 : (List Int)} {x1 : (List Int)} {r : Int}, a3 x0 x1 = some r → Does PP GV a3f [] (a3s ++ [((SL 1 I) x0), ((SL 1 I) x1)] ++ a3c) [] [] (I r)) (a3k : callable PP a3f = true) (a3l : a3s.all flat = true ∧ a3c.all flat = true) (a3p : PuL a3s) (a3q : PuL a3c) (hy : p_slices_insertionSortCmpFunc_Sint K a0 a1 a2 a3 = some y) : Does PP GV 148 [.buf 1 (a0.map (SL 1 I))] [.own 0 0 1 0 a0.length false, (I a1), (I a2), .fn (.func a3f) a3s a3c] [0] [.buf 1 (y.map (SL 1 I))] (.tup []) := by
 unfold p_slices_insertionSortCmpFunc_Sint at hy
 refine does_of at148 r (le_ok r) <| ?_
 rintro ⟨_, base, w0, F⟩ rfl
 refine reg 3 r <| mv r r r <| bn r r r r r <| asg r r r <| dn <| at_block <| wk (T' := [(0, .own 0 _ 1 0 (a0).length false), (1, (I a1)), (2, (I a2)), (3, .fn (.func a3f) a3s a3c), (8, (I (w64 (a1 + 1))))]) (H' := [(0, some (_, .buf 1 (a0.map (SL 1 I))))]) (.k r r (.k r r (.k r r (.k r r (.k r r .nil))))) (.k r r .nil) <| loopI (fun (p : Nat × Int × (List (List Int))) => match p with | (n1, v8_3, l0_3) => mk [(0, .own 0 0 1 0 (l0_3).length false), (1, (I a1)), (2, (I a2)), (3, .fn (.func a3f) a3s a3c), (8, (I v8_3))] [(0, some (0, .buf 1 (l0_3.map (SL 1 I))))]) (fun p => match p with | (n1, v8_3, l0_3) => p_slices_insertionSortCmpFunc_Sint_L1 K a2 a1 a3 n1 v8_3 l0_3 = some y) (fun p => p.1) ?_ (K, (w64 (a1 + 1)), a0) hy _
 rintro ⟨n1, v8_3, l0_3⟩ cl hy
 cases n1 with | zero => cases hy | succ n1 => ?_
 change At _ cl (mk _ _) _
 replace hy : p_slices_insertionSortCmpFunc_Sint_L1 K a2 a1 a3 (n1+1) v8_3 l0_3 = some y := hy
 rw [p_slices_insertionSortCmpFunc_Sint_L1] at hy
 refine at_seq <| reg 3 r <| mv r r r <| mv r r r <| bn r r r r r <| dn <| cd r (fun h2 => ?_) (fun h2 => ?_)
 ·replace hy := ifT hy h2
  refine at_skip <| ?_
  obtain ⟨o2, hy, k2, hk2, hc2⟩ := bndK hy
  refine meetI (fun (p : (List (List Int))) => match p with | l0_2 => mk [(0, .own 0 0 1 0 (l0_2).length false), (1, (I a1)), (2, (I a2)), (3, .fn (.func a3f) a3s a3c), (8, (I v8_3))] [(0, some (0, .buf 1 (l0_2.map (SL 1 I))))]) (fun p => match p with | l0_2 => k2 l0_2 = some y) ?_ ?_
  ·skip
   refine at_block <| reg 2 r <| mv r r r <| asg r r r <| dn <| at_block <| wk (T' := [(0, .own 0 _ 1 0 (l0_3).length false), (1, (I a1)), (2, (I a2)), (3, .fn (.func a3f) a3s a3c), (8, (I v8_3)), (9, (I v8_3))]) (H' := [(0, some (_, .buf 1 (l0_3.map (SL 1 I))))]) (.k r r (.k r r (.k r r (.k r r (.k r r (.k r r .nil)))))) (.k r r .nil) <| loopI (fun (p : Nat × Int × (List (List Int))) => match p with | (n3, v9_1, l0_1) => mk [(0, .own 0 0 1 0 (l0_1).length false), (1, (I a1)), (2, (I a2)), (3, .fn (.func a3f) a3s a3c), (8, (I v8_3)), (9, (I v9_1))] [(0, some (0, .buf 1 (l0_1.map (SL 1 I))))]) (fun p => match p with | (n3, v9_1, l0_1) => p_slices_insertionSortCmpFunc_Sint_L2 K a1 a3 n3 v9_1 l0_1 = some o2) (fun p => p.1) ?_ (K, v8_3, l0_3) hy _
   rintro ⟨n3, v9_1, l0_1⟩ cl hy
   cases n3 with | zero => cases hy | succ n3 => ?_
   change At _ cl (mk _ _) _
   replace hy : p_slices_insertionSortCmpFunc_Sint_L2 K a1 a3 (n3+1) v9_1 l0_1 = some o2 := hy
   rw [p_slices_insertionSortCmpFunc_Sint_L2] at hy
   refine at_seq <| regd mixed 17 r <| mv r r r <| mv r r r <| bn r r r r r <| mv r r r <| cas 21 r (fun h5 => ?_) (fun h5 => ?_)
   ·replace hy := ifT hy h5
    refine mv r r r <| mv r r r <| mv r r r <| ?_
    obtain ⟨i1, qi1, bi1, hy⟩ := bdI hy
    obtain ⟨v2, xv2, hy⟩ := gtI hy
    refine ixP' sl30 qi1 bi1 r r r r <| ldP (f := (SL 1 I)) tk29 xv2 r r r r r <| mv r r r <| mv r r r <| bn r r r r r <| ?_
    obtain ⟨i3, qi3, bi3, hy⟩ := bdI hy
    obtain ⟨v4, xv4, hy⟩ := gtI hy
    refine ixP' sl30 qi3 bi3 r r r r <| ldP (f := (SL 1 I)) tk29 xv4 r r r r r <| ?_
    obtain ⟨r5, qr5, hy⟩ := bndI hy
    refine clv (a3h qr5) a3k r r r r a3l (puL3 a3p (.cons ((pu_l 1 pu_I) _) (.cons ((pu_l 1 pu_I) _) (.nil))) a3q) (.one (pu_I _)) r <| bn r r r r r <| pkt r r r r r <| dn ⟨by kernel_rfl, ?_⟩
    refine cd r (fun h6 => ?_) (fun h6 => ?_)
    ·replace hy := ifT hy h6
     refine at_skip <| at_seq <| at_block <| regd1 mixed 18 r <| mv r r r <| mv r r r <| mv r r r <| mv r r r <| bn r r r r r <| mv r r r <| mv r r r <| bn r r r r r <| ?_
     obtain ⟨i6, qi6, bi6, hy⟩ := bdI hy
     obtain ⟨v7, xv7, hy⟩ := gtI hy
     refine ixP' sl30 qi6 bi6 r r r r <| ldP (f := (SL 1 I)) tk29 xv7 r r r r r <| mv r r r <| mv r r r <| ?_
     obtain ⟨i8, qi8, bi8, hy⟩ := bdI hy
     obtain ⟨v9, xv9, hy⟩ := gtI hy
     refine ixP' sl30 qi8 bi8 r r r r <| ldP (f := (SL 1 I)) tk29 xv9 r r r r r <| ?_
     obtain ⟨i10, qi10, bi10, hy⟩ := bdI hy
     obtain ⟨v11, xv11, hy⟩ := gtI hy
     refine ixP' sl30 qi10 bi10 r r r r <| stP (f := (SL 1 I)) (v7) tk29 xv11 r r r r r r <| ?_
     obtain ⟨i12, qi12, bi12, hy⟩ := bdI hy
     obtain ⟨v13, xv13, hy⟩ := gtI hy
     refine ixP' sl30 qi12 bi12 r r r r <| stP (f := (SL 1 I)) (v9) tk29 xv13 r r r r r r <| dn ⟨by kernel_rfl, ?_⟩
     refine at_bn <| reg1 3 r <| mv r r r <| bn r r r r r <| asg r r r <| dn <| againI (n3, (w64 (v9_1 - 1)), ((l0_1.set i10 v7).set i12 v9)) r hy (Nat.lt_succ_self _) (.k r (by simp) (.k r r (.k r r (.k r r (.k r r (.k r r .nil)))))) (.k r r .nil)
    ·replace hy := ifF hy h6
     refine at_exit <| at_te <| at_te <| at_inBlock <| at_bn <| ?_
     replace hy := sj hy
     subst hy
     refine metI l0_1 r hc2 (.k r r (.k r r (.k r r (.k r r (.k r r .nil))))) (.k r r .nil)
   ·replace hy := ifF hy h5
    refine sk r r <| sk r r <| sk r r <| sk r r <| sk r r <| sk r r <| sk r r <| sk r r <| sk r r <| sk r r <| sk r r <| sk r r <| pkf r r r r r <| dn ⟨by kernel_rfl, ?_⟩
    refine cdf r <| at_exit <| at_te <| at_te <| at_inBlock <| at_bn <| ?_
    replace hy := sj hy
    subst hy
    refine metI l0_1 r hc2 (.k r r (.k r r (.k r r (.k r r (.k r r .nil))))) (.k r r .nil)
  ·rintro l0_2 cl hy
   subst hk2
   change At _ cl (mk _ _) _
   refine reg1 3 r <| mv r r r <| bn r r r r r <| asg r r r <| dn <| againI (n1, (w64 (v8_3 + 1)), l0_2) r hy (Nat.lt_succ_self _) (.k r r (.k r r (.k r r (.k r r (.k r r .nil))))) (.k r r .nil)
 ·replace hy := ifF hy h2
  refine at_exit <| at_te <| at_te <| at_inBlock <| ?_
  replace hy := sj hy
  subst hy
  exact outO0 (g1 := (SL 1 I)) r (.inr r) r (pu_l 1 pu_I)
def p_slices_pdqsortCmpFunc_Sint_L1 (K : Nat) (a2 : Int) (a1 : Int) (a0 : (List (List Int))) (a4 : ((List Int) → (List Int) → Option Int)) (a3 : Int) : Nat → Option (List (List Int))
 | 0 => none
 | n+1 => (bif (decide ((w64 (a2 - a1)) ≤ 12)) then ((p_slices_insertionSortCmpFunc_Sint K a0 a1 a2 a4).bind fun r1 => lenP a0 r1 (some r1)) else (bif (a3 == 0) then none else ((some () : Option Unit).bind fun _ => none)))
def p_slices_pdqsortCmpFunc_Sint (K : Nat) (a0 : (List (List Int))) (a1 : Int) (a2 : Int) (a3 : Int) (a4 : ((List Int) → (List Int) → Option Int)) : Option (List (List Int)) :=
 p_slices_pdqsortCmpFunc_Sint_L1 K a2 a1 a0 a4 a3 K
theorem w_slices_pdqsortCmpFunc_Sint {K : Nat} {a0 : (List (List Int))} {a1 : Int} {a2 : Int} {a3 : Int} {a4 : ((List Int) → (List Int) → Option Int)} {y : (List (List Int))} {a4f : FuncId} {a4s a4c : List AV} (a4h : ∀ {x0 : (List Int)} {x1 : (List Int)} {r : Int}, a4 x0 x1 = some r → Does PP GV a4f [] (a4s ++ [((SL 1 I) x0), ((SL 1 I) x1)] ++ a4c) [] [] (I r)) (a4k : callable PP a4f = true) (a4l : a4s.all flat = true ∧ a4c.all flat = true) (a4p : PuL a4s) (a4q : PuL a4c) (hy : p_slices_pdqsortCmpFunc_Sint K a0 a1 a2 a3 a4 = some y) : Does PP GV 147 [.buf 1 (a0.map (SL 1 I))] [.own 0 0 1 0 a0.length false, (I a1), (I a2), (I a3), .fn (.func a4f) a4s a4c] [0] [.buf 1 (y.map (SL 1 I))] (.tup []) := by
 unfold p_slices_pdqsortCmpFunc_Sint at hy
 refine does_of at147 r (le_ok r) <| ?_
 rintro ⟨_, base, w0, F⟩ rfl
 refine reg 1 r <| asg r r r <| dn <| reg 1 r <| asg r r r <| dn <| at_block <| wk (T' := [(0, .own 0 _ 1 0 (a0).length false), (1, (I a1)), (2, (I a2)), (3, (I a3)), (4, .fn (.func a4f) a4s a4c), (10, (B true)), (11, (B true))]) (H' := [(0, some (_, .buf 1 (a0.map (SL 1 I))))]) (.k r r (.k r r (.k r r (.k r r (.k r r (.k r r (.k r r .nil))))))) (.k r r .nil) <| loopI (fun (p : Nat) => mk [(0, .own 0 0 1 0 (a0).length false), (1, (I a1)), (2, (I a2)), (3, (I a3)), (4, .fn (.func a4f) a4s a4c), (10, (B true)), (11, (B true))] [(0, some (0, .buf 1 (a0.map (SL 1 I))))]) (fun p => p_slices_pdqsortCmpFunc_Sint_L1 K a2 a1 a0 a4 a3 p = some y) (fun p => p) ?_ K hy _
 rintro n1 cl hy
 cases n1 with | zero => cases hy | succ n1 => ?_
 change At _ cl (mk _ _) _
 replace hy : p_slices_pdqsortCmpFunc_Sint_L1 K a2 a1 a0 a4 a3 (n1+1)  = some y := hy
 rw [p_slices_pdqsortCmpFunc_Sint_L1] at hy
 refine at_block <| reg 4 r <| mv r r r <| mv r r r <| bn r r r r r <| asg r r r <| dn <| at_seq <| reg 2 r <| mv r r r <| bn r r r r r <| dn <| cd r (fun h2 => ?_) (fun h2 => ?_)
 ·replace hy := ifT hy h2
  refine reg 5 r <| mv r r r <| mv r r r <| mv r r r <| mv r r r <| ?_
  obtain ⟨r1, qr1, hy⟩ := bndI hy
  obtain ⟨tr1, hy⟩ := lenI hy
  refine clo1 (s := 0) (w_slices_insertionSortCmpFunc_Sint (a3h := a4h) (a3k := a4k) (a3l := a4l) (a3p := a4p) (a3q := a4q) qr1) ca148 r (.tup .nil) r r (pu_l 1 pu_I) ?_ r ?_
  ·exact .cons _ _ _ _ (rnOwn (List.Mem.head _) (by first | rfl | simp)) (.cons _ _ _ _ (.pu _ (pu_I _)) (.cons _ _ _ _ (.pu _ (pu_I _)) (.cons _ _ _ _ (.pu _ (pu_fn a4p a4q)) (.nil))))
  refine teq 0 (y := .own 0 _ 1 0 r1.length false) r (by first | rw [tr1] | simp [tr1]) <| teq 26 (y := .own 0 _ 1 0 r1.length false) r (by first | rw [tr1] | simp [tr1]) <| dn <| at_ret <| ?_
  replace hy := sj hy
  subst hy
  exact outO0 (g1 := (SL 1 I)) r (.inl r) r (pu_l 1 pu_I)
 ·replace hy := ifF hy h2
  refine at_skip <| at_seq <| reg 2 r <| mv r r r <| bn r r r r r <| dn <| cd r (fun h3 => ?_) (fun h3 => ?_)
  ·replace hy := ifT hy h3
   refine reg 5 r <| mv r r r <| mv r r r <| mv r r r <| mv r r r <| ?_
   cases hy
  ·replace hy := ifF hy h3
   refine at_skip <| ?_
   obtain ⟨o2, hy, k2, hk2, hc2⟩ := bndK hy
   refine meetI (fun (p : Unit) => match p with | _ => mk [(0, .own 0 0 1 0 (a0).length false), (1, (I a1)), (2, (I a2)), (3, (I a3)), (4, .fn (.func a4f) a4s a4c), (10, (B true)), (11, (B true)), (12, (I (w64 (a2 - a1))))] [(0, some (0, .buf 1 (a0.map (SL 1 I))))]) (fun p => match p with | _ => k2 () = some y) ?_ ?_
   ·skip
    refine reg 2 r <| mv r r r <| nt r r r <| dn <| cdf r <| at_skip <| ?_
    replace hy := sj hy
    subst hy
    refine metI () r hc2 (.k r r (.k r r (.k r r (.k r r (.k r r (.k r r (.k r r (.k r r .nil)))))))) (.k r r .nil)
   ·rintro ⟨⟩ cl hy
    subst hk2
    change At _ cl (mk _ _) _
    refine reg 10 r <| mv r r r <| mv r r r <| mv r r r <| mv r r r <| ?_
    cases hy
def p_slices_SortFunc_SSint_Sint (K : Nat) (a0 : (List (List Int))) (a1 : ((List Int) → (List Int) → Option Int)) : Option (List (List Int)) :=
 ((p_math_bits_Len K (IntKind.u64.wrap (a0.length : Int))).bind fun r1 => ((p_slices_pdqsortCmpFunc_Sint K a0 0 (a0.length : Int) r1 a1).bind fun r2 => lenP a0 r2 (some r2)))
theorem w_slices_SortFunc_SSint_Sint {K : Nat} {a0 : (List (List Int))} {a1 : ((List Int) → (List Int) → Option Int)} {y : (List (List Int))} {a1f : FuncId} {a1s a1c : List AV} (a1h : ∀ {x0 : (List Int)} {x1 : (List Int)} {r : Int}, a1 x0 x1 = some r → Does PP GV a1f [] (a1s ++ [((SL 1 I) x0), ((SL 1 I) x1)] ++ a1c) [] [] (I r)) (a1k : callable PP a1f = true) (a1l : a1s.all flat = true ∧ a1c.all flat = true) (a1p : PuL a1s) (a1q : PuL a1c) (hy : p_slices_SortFunc_SSint_Sint K a0 a1 = some y) : Does PP GV 145 [.buf 1 (a0.map (SL 1 I))] [.own 0 0 1 0 a0.length false, .fn (.func a1f) a1s a1c] [0] [.buf 1 (y.map (SL 1 I))] (.tup []) := by
 unfold p_slices_SortFunc_SSint_Sint at hy
 refine does_of at145 r (le_ok r) <| ?_
 rintro ⟨_, base, w0, F⟩ rfl
 refine reg 3 r <| mv r r r <| lno slB30 r r r <| asg r r r <| dn <| reg1 7 r <| mv r r r <| mv r r r <| mv r r r <| rg_conv (gd_of r) (ev_of r) us3 ui76 (lt_ok r) <| ?_
 obtain ⟨r1, qr1, hy⟩ := bndI hy
 refine clp (w_math_bits_Len qr1) ca84 r r (.cons (pu_J _ _) (.nil)) (.one (pu_I _)) r <| mv r r r <| ?_
 obtain ⟨r2, qr2, hy⟩ := bndI hy
 obtain ⟨tr2, hy⟩ := lenI hy
 refine clo1 (s := 0) (w_slices_pdqsortCmpFunc_Sint (a4h := a1h) (a4k := a1k) (a4l := a1l) (a4p := a1p) (a4q := a1q) qr2) ca147 r (.tup .nil) r r (pu_l 1 pu_I) ?_ r ?_
 ·exact .cons _ _ _ _ (rnOwn (List.Mem.head _) (by first | rfl | simp)) (.cons _ _ _ _ (.pu _ (pu_I _)) (.cons _ _ _ _ (.pu _ (pu_I _)) (.cons _ _ _ _ (.pu _ (pu_I _)) (.cons _ _ _ _ (.pu _ (pu_fn a1p a1q)) (.nil)))))
 refine teq 0 (y := .own 0 _ 1 0 r2.length false) r (by first | rw [tr2] | simp [tr2]) <| teq 5 (y := .own 0 _ 1 0 r2.length false) r (by first | rw [tr2] | simp [tr2]) <| teq 7 (y := .own 0 _ 1 0 r2.length false) r (by first | rw [tr2] | simp [tr2]) <| dn <| ?_
 replace hy := sj hy
 subst hy
 exact outO0 (g1 := (SL 1 I)) r (.inr r) r (pu_l 1 pu_I)
end Go.Ar
namespace Go.Ar
open Go.RowKit
def p_slices_Clone_Sint_int (K : Nat) (a0 : (List Int)) : Option (List Int) :=
 (guP (0 < a0.length) ((apP 8 ([] : List Int).length a0.length (some (([] : List Int) ++ a0)))))
theorem w_slices_Clone_Sint_int {K : Nat} {a0 : (List Int)} {y : (List Int)} (hy : p_slices_Clone_Sint_int K a0 = some y) : Does PP GV 41 [] [((SL 1 I) a0)] [] [] ((SL 1 I) y) := by
 unfold p_slices_Clone_Sint_int at hy
 refine does_of at41 r (le_ok r) <| ?_
 rintro ⟨_, base, w0, F⟩ rfl
 refine reg 1 r <| asg r r r <| dn <| at_seq <| reg 2 r <| mv r r r <| ?_
 obtain ⟨k1, hy⟩ := guI hy
 refine eqN (f := I) (l := a0) sl29 k1 r r r <| dn <| cdf r <| at_skip <| reg 4 r <| bldsP I ([] : List Int) 1 se29 r r r r r r r <| mv r r r <| ?_
 obtain ⟨k2a, k2b, hy⟩ := apI hy
 refine aplP (f := I) (l := ([] : List Int)) (zs := a0) se29 k2a k2b r r r r r <| asg r r r <| dn <| at_ret <| frzP (f := I) (l := (([] : List Int) ++ a0)) 2 1 r r pu_I <| ?_
 replace hy := sj hy
 subst hy
 exact out1 r (.inl r) (look_of r) r ((pu_l 1 pu_I) _)
def p_slices_Clone_Sint_int_o (K : Nat) (a0 : (List Int)) (m0 : Nat) : Option (List Int) :=
 (guP (0 < m0) ((guP (m0 ≤ a0.length) (apP 8 ([] : List Int).length m0 (some (([] : List Int) ++ List.take m0 a0))))))
theorem w_slices_Clone_Sint_int_o {K : Nat} {a0 : (List Int)} {m0 : Nat} {y : (List Int)} (hy : p_slices_Clone_Sint_int_o K a0 m0 = some y) : Does PP GV 41 [.buf 1 (a0.map I)] [.own 0 0 1 0 m0 false] [0] [.buf 1 (a0.map I)] ((SL 1 I) y) := by
 unfold p_slices_Clone_Sint_int_o at hy
 refine does_of at41 r (le_ok r) <| ?_
 rintro ⟨_, base, w0, F⟩ rfl
 refine reg 1 r <| asg r r r <| dn <| at_seq <| reg 2 r <| mv r r r <| ?_
 obtain ⟨k1, hy⟩ := guI hy
 refine eqNo sl29 k1 r r r <| dn <| cdf r <| at_skip <| reg 4 r <| bldsP I ([] : List Int) 1 se29 r r r r r r r <| mv r r r <| ?_
 obtain ⟨k2, hy⟩ := guI hy
 obtain ⟨k3a, k3b, hy⟩ := apI hy
 refine apoS (f := I) (l := ([] : List Int)) (zs := a0) se29 k2 k3a k3b r r r r r r <| asg r r r <| dn <| at_ret <| frzP (f := I) (l := (([] : List Int) ++ List.take m0 a0)) 2 1 r r pu_I <| ?_
 replace hy := sj hy
 subst hy
 exact outO1 (g1 := I) r (.inl r) r ((pu_l 1 pu_I) _) r pu_I
def p_slices_Clone_Sint_int_n (K : Nat) (a0 : (List Int)) : Option (List Int) :=
 (guP (0 < a0.length) ((apP 8 ([] : List Int).length a0.length (some (([] : List Int) ++ a0)))))
theorem w_slices_Clone_Sint_int_n {K : Nat} {a0 : (List Int)} {y : (List Int)} (hy : p_slices_Clone_Sint_int_n K a0 = some y) : Does PP GV 41 [] [((SL 1 I) a0)] [] [.buf 1 (y.map I)] (.own 0 0 1 0 y.length false) := by
 unfold p_slices_Clone_Sint_int_n at hy
 refine does_of at41 r (le_ok r) <| ?_
 rintro ⟨_, base, w0, F⟩ rfl
 refine reg 1 r <| asg r r r <| dn <| at_seq <| reg 2 r <| mv r r r <| ?_
 obtain ⟨k1, hy⟩ := guI hy
 refine eqN (f := I) (l := a0) sl29 k1 r r r <| dn <| cdf r <| at_skip <| reg 4 r <| bldsP I ([] : List Int) 1 se29 r r r r r r r <| mv r r r <| ?_
 obtain ⟨k2a, k2b, hy⟩ := apI hy
 refine aplP (f := I) (l := ([] : List Int)) (zs := a0) se29 k2a k2b r r r r r <| asg r r r <| dn <| at_ret <| ?_
 replace hy := sj hy
 subst hy
 exact outN (g1 := I) r (.inl r) r r pu_I
def p_slices_DeleteFunc_Sint_int_L1 (K : Nat) (a1 : (Int → Option Bool)) : Nat → Int → Int → (List Int) → Option (Int × (List Int))
 | 0, _, _, _ => none
 | n+1, v5_1, v6_1, l0_1 => (bif (decide (v6_1 < (l0_1.length : Int))) then (bdP l0_1.length v6_1 fun i2 => gtP l0_1 i2 fun v3 => ((a1 v3).bind fun r4 => (bif (!r4) then (bdP l0_1.length v5_1 fun i5 => gtP l0_1 i5 fun v6 => p_slices_DeleteFunc_Sint_int_L1 K a1 n (w64 (v5_1 + 1)) (w64 (v6_1 + 1)) (l0_1.set i5 v3)) else p_slices_DeleteFunc_Sint_int_L1 K a1 n v5_1 (w64 (v6_1 + 1)) l0_1))) else some (v5_1, l0_1))
def p_slices_DeleteFunc_Sint_int (K : Nat) (a0 : (List Int)) (a1 : (Int → Option Bool)) : Option (Nat × (List Int)) :=
 ((p_slices_IndexFunc_Sint_int K a0 a1).bind fun r1 => (bif (r1 == (-1)) then some (a0.length, a0) else ((p_slices_DeleteFunc_Sint_int_L1 K a1 K r1 (w64 (r1 + 1)) a0 : Option (Int × (List Int))).bind fun (v5_2, l0_2) => (bdP (l0_2.length + 1) v5_2 fun i7 => (guP (i7 + (l0_2.length - i7) ≤ l0_2.length) ((bdP (l0_2.length + 1) v5_2 fun i9 => some (i9, (l0_2.take i7)))))))))
theorem w_slices_DeleteFunc_Sint_int {K : Nat} {a0 : (List Int)} {a1 : (Int → Option Bool)} {y : (Nat × (List Int))} {a1f : FuncId} {a1s a1c : List AV} (a1h : ∀ {x0 : Int} {r : Bool}, a1 x0 = some r → Does PP GV a1f [] (a1s ++ [(I x0)] ++ a1c) [] [] (B r)) (a1k : callable PP a1f = true) (a1l : a1s.all flat = true ∧ a1c.all flat = true) (a1p : PuL a1s) (a1q : PuL a1c) (hy : p_slices_DeleteFunc_Sint_int K a0 a1 = some y) : Does PP GV 54 [.buf 1 (a0.map I)] [.own 0 0 1 0 a0.length false, .fn (.func a1f) a1s a1c] [0] [.buf 1 (y.2.map I)] (.own 0 0 1 0 y.1 false) := by
 unfold p_slices_DeleteFunc_Sint_int at hy
 refine does_of at54 r (le_ok r) <| ?_
 rintro ⟨_, base, w0, F⟩ rfl
 refine reg 1 r <| asg r r r <| dn <| reg 4 r <| mv r r r <| mv r r r <| ?_
 obtain ⟨r1, qr1, hy⟩ := bndI hy
 refine clo1 (g1 := I) (l := a0) (l' := a0) (s := 0) (ys := [.own 0 0 1 0 a0.length false, _]) (lend (w_slices_IndexFunc_Sint_int (a1h := a1h) (a1k := a1k) (a1l := a1l) (a1p := a1p) (a1q := a1q) qr1) (.cons _ _ _ _ (rn_own (List.Mem.head _) (pu_map pu_I _) (by simp)) (.cons _ _ _ _ (.pu _ (pu_fn a1p a1q)) (.nil))) sc_v) ca68 r (.one (pu_I _)) r r pu_I ?_ r ?_
 ·exact .cons _ _ _ _ (rnOwn (List.Mem.head _) (by first | rfl | simp)) (.cons _ _ _ _ (.pu _ (pu_fn a1p a1q)) (.nil))
 refine asg r r r <| dn <| at_seq <| reg 2 r <| mv r r r <| bn r r r r r <| dn <| cd r (fun h1 => ?_) (fun h1 => ?_)
 ·replace hy := ifT hy h1
  refine reg 2 r <| mv r r r <| asg r r r <| dn <| at_ret <| ?_
  replace hy := sj hy
  subst hy
  exact outOw (g1 := I) r (.inl r) r r pu_I r
 ·replace hy := ifF hy h1
  refine at_skip <| ?_
  obtain ⟨o1, hy, k1, hk1, hc1⟩ := bndK hy
  refine meetI (fun (p : Int × (List Int)) => match p with | (v5_2, l0_2) => mk [(0, .own 0 0 1 0 (l0_2).length false), (5, (I v5_2))] [(0, some (0, .buf 1 (l0_2.map I)))]) (fun p => match p with | (v5_2, l0_2) => k1 (v5_2, l0_2) = some y) ?_ ?_
  ·skip
   refine reg 3 r <| mv r r r <| bn r r r r r <| asg r r r <| dn <| at_block <| wk (T' := [(0, .own 0 _ 1 0 (a0).length false), (1, .fn (.func a1f) a1s a1c), (5, (I r1)), (6, (I (w64 (r1 + 1))))]) (H' := [(0, some (_, .buf 1 (a0.map I)))]) (.k r r (.k r r (.k r r (.k r r .nil)))) (.k r r .nil) <| loopI (fun (p : Nat × Int × Int × (List Int)) => match p with | (n2, v5_1, v6_1, l0_1) => mk [(0, .own 0 0 1 0 (l0_1).length false), (1, .fn (.func a1f) a1s a1c), (5, (I v5_1)), (6, (I v6_1))] [(0, some (0, .buf 1 (l0_1.map I)))]) (fun p => match p with | (n2, v5_1, v6_1, l0_1) => p_slices_DeleteFunc_Sint_int_L1 K a1 n2 v5_1 v6_1 l0_1 = some o1) (fun p => p.1) ?_ (K, r1, (w64 (r1 + 1)), a0) hy _
   rintro ⟨n2, v5_1, v6_1, l0_1⟩ cl hy
   cases n2 with | zero => cases hy | succ n2 => ?_
   change At _ cl (mk _ _) _
   replace hy : p_slices_DeleteFunc_Sint_int_L1 K a1 (n2+1) v5_1 v6_1 l0_1 = some o1 := hy
   rw [p_slices_DeleteFunc_Sint_int_L1] at hy
   refine at_seq <| reg 4 r <| mv r r r <| mv r r r <| lno slB29 r r r <| bn r r r r r <| dn <| cd r (fun h4 => ?_) (fun h4 => ?_)
   ·replace hy := ifT hy h4
    refine at_skip <| at_seq <| at_block <| reg 5 r <| mv r r r <| mv r r r <| ?_
    obtain ⟨i2, qi2, bi2, hy⟩ := bdI hy
    obtain ⟨v3, xv3, hy⟩ := gtI hy
    refine ixP' sl29 qi2 bi2 r r r r <| ldP (f := I) tk3 xv3 r r r r r <| asg r r r <| dn <| reg 4 r <| mv r r r <| mv r r r <| ?_
    obtain ⟨r4, qr4, hy⟩ := bndI hy
    refine clv (a1h qr4) a1k r r r r a1l (puL3 a1p (.cons (pu_I _) (.nil)) a1q) (.one (pu_B _)) r <| nt r r r <| dn <| cd r (fun h5 => ?_) (fun h5 => ?_)
    ·replace hy := ifT hy h5
     refine reg 5 r <| mv r r r <| mv r r r <| mv r r r <| ?_
     obtain ⟨i5, qi5, bi5, hy⟩ := bdI hy
     obtain ⟨v6, xv6, hy⟩ := gtI hy
     refine ixP' sl29 qi5 bi5 r r r r <| stP (f := I) (v3) tk3 xv6 r r r r r r <| dn <| reg1 3 r <| mv r r r <| bn r r r r r <| asg r r r <| dn <| at_bn <| reg1 3 r <| mv r r r <| bn r r r r r <| asg r r r <| dn <| againI (n2, (w64 (v5_1 + 1)), (w64 (v6_1 + 1)), (l0_1.set i5 v3)) r hy (Nat.lt_succ_self _) (.k r (by simp) (.k r r (.k r r (.k r r .nil)))) (.k r r .nil)
    ·replace hy := ifF hy h5
     refine at_skip <| at_bn <| reg1 3 r <| mv r r r <| bn r r r r r <| asg r r r <| dn <| againI (n2, v5_1, (w64 (v6_1 + 1)), l0_1) r hy (Nat.lt_succ_self _) (.k r r (.k r r (.k r r (.k r r .nil)))) (.k r r .nil)
   ·replace hy := ifF hy h4
    refine at_exit <| at_te <| at_te <| at_inBlock <| ?_
    replace hy := sj hy
    subst hy
    refine metI (v5_1, l0_1) r hc1 (.k r r (.k r r .nil)) (.k r r .nil)
  ·rintro ⟨v5_2, l0_2⟩ cl hy
   subst hk1
   change At _ cl (mk _ _) _
   refine reg 4 r <| mv r r r <| mv r r r <| ?_
   obtain ⟨i7, qi7, bi7, hy⟩ := bdI hy
   refine sloB sl29 qi7 (Nat.le_of_lt_succ bi7) r r r r <| ?_
   obtain ⟨k8, hy⟩ := guI hy
   refine clrP (f := I) (l := l0_2) se29 (by first | exact k8 | simpa using k8) r r r <| dn <| reg 4 r <| mv r r r <| mv r r r <| ?_
   obtain ⟨i9, qi9, bi9, hy⟩ := bdI hy
   refine sloF sl29 qi9 (Nat.le_of_lt_succ bi9) r r r r <| asg r r r <| dn <| at_ret <| ?_
   replace hy := sj hy
   subst hy
   exact outOw (g1 := I) r (.inl r) r r pu_I r
def p_slices_DeleteFunc_Sapi_Edge_api_Edge_L1 (K : Nat) (a1 : (Ed → Option Bool)) : Nat → Int → Int → (List Ed) → Option (Int × (List Ed))
 | 0, _, _, _ => none
 | n+1, v5_1, v6_1, l0_1 => (bif (decide (v6_1 < (l0_1.length : Int))) then (bdP l0_1.length v6_1 fun i2 => gtP l0_1 i2 fun v3 => ((a1 v3).bind fun r4 => (bif (!r4) then (bdP l0_1.length v5_1 fun i5 => gtP l0_1 i5 fun v6 => p_slices_DeleteFunc_Sapi_Edge_api_Edge_L1 K a1 n (w64 (v5_1 + 1)) (w64 (v6_1 + 1)) (l0_1.set i5 v3)) else p_slices_DeleteFunc_Sapi_Edge_api_Edge_L1 K a1 n v5_1 (w64 (v6_1 + 1)) l0_1))) else some (v5_1, l0_1))
def p_slices_DeleteFunc_Sapi_Edge_api_Edge (K : Nat) (a0 : (List Ed)) (a1 : (Ed → Option Bool)) : Option (Nat × (List Ed)) :=
 ((p_slices_IndexFunc_Sapi_Edge_api_Edge K a0 a1).bind fun r1 => (bif (r1 == (-1)) then some (a0.length, a0) else ((p_slices_DeleteFunc_Sapi_Edge_api_Edge_L1 K a1 K r1 (w64 (r1 + 1)) a0 : Option (Int × (List Ed))).bind fun (v5_2, l0_2) => (bdP (l0_2.length + 1) v5_2 fun i7 => (guP (i7 + (l0_2.length - i7) ≤ l0_2.length) ((bdP (l0_2.length + 1) v5_2 fun i9 => some (i9, (l0_2.take i7)))))))))
theorem w_slices_DeleteFunc_Sapi_Edge_api_Edge {K : Nat} {a0 : (List Ed)} {a1 : (Ed → Option Bool)} {y : (Nat × (List Ed))} {a1f : FuncId} {a1s a1c : List AV} (a1h : ∀ {x0 : Ed} {r : Bool}, a1 x0 = some r → Does PP GV a1f [] (a1s ++ [(EdA x0)] ++ a1c) [] [] (B r)) (a1k : callable PP a1f = true) (a1l : a1s.all flat = true ∧ a1c.all flat = true) (a1p : PuL a1s) (a1q : PuL a1c) (hy : p_slices_DeleteFunc_Sapi_Edge_api_Edge K a0 a1 = some y) : Does PP GV 33 [.buf 2 (a0.map EdA)] [.own 0 0 2 0 a0.length false, .fn (.func a1f) a1s a1c] [0] [.buf 2 (y.2.map EdA)] (.own 0 0 2 0 y.1 false) := by
 unfold p_slices_DeleteFunc_Sapi_Edge_api_Edge at hy
 refine does_of at33 r (le_ok r) <| ?_
 rintro ⟨_, base, w0, F⟩ rfl
 refine reg 1 r <| asg r r r <| dn <| reg 4 r <| mv r r r <| mv r r r <| ?_
 obtain ⟨r1, qr1, hy⟩ := bndI hy
 refine clo1 (g1 := EdA) (l := a0) (l' := a0) (s := 0) (ys := [.own 0 0 2 0 a0.length false, _]) (lend (w_slices_IndexFunc_Sapi_Edge_api_Edge (a1h := a1h) (a1k := a1k) (a1l := a1l) (a1p := a1p) (a1q := a1q) qr1) (.cons _ _ _ _ (rn_own (List.Mem.head _) (pu_map pu_Ed _) (by simp)) (.cons _ _ _ _ (.pu _ (pu_fn a1p a1q)) (.nil))) sc_v) ca31 r (.one (pu_I _)) r r pu_Ed ?_ r ?_
 ·exact .cons _ _ _ _ (rnOwn (List.Mem.head _) (by first | rfl | simp)) (.cons _ _ _ _ (.pu _ (pu_fn a1p a1q)) (.nil))
 refine asg r r r <| dn <| at_seq <| reg 2 r <| mv r r r <| bn r r r r r <| dn <| cd r (fun h1 => ?_) (fun h1 => ?_)
 ·replace hy := ifT hy h1
  refine reg 2 r <| mv r r r <| asg r r r <| dn <| at_ret <| ?_
  replace hy := sj hy
  subst hy
  exact outOw (g1 := EdA) r (.inl r) r r pu_Ed r
 ·replace hy := ifF hy h1
  refine at_skip <| ?_
  obtain ⟨o1, hy, k1, hk1, hc1⟩ := bndK hy
  refine meetI (fun (p : Int × (List Ed)) => match p with | (v5_2, l0_2) => mk [(0, .own 0 0 2 0 (l0_2).length false), (5, (I v5_2))] [(0, some (0, .buf 2 (l0_2.map EdA)))]) (fun p => match p with | (v5_2, l0_2) => k1 (v5_2, l0_2) = some y) ?_ ?_
  ·skip
   refine reg 3 r <| mv r r r <| bn r r r r r <| asg r r r <| dn <| at_block <| wk (T' := [(0, .own 0 _ 2 0 (a0).length false), (1, .fn (.func a1f) a1s a1c), (5, (I r1)), (6, (I (w64 (r1 + 1))))]) (H' := [(0, some (_, .buf 2 (a0.map EdA)))]) (.k r r (.k r r (.k r r (.k r r .nil)))) (.k r r .nil) <| loopI (fun (p : Nat × Int × Int × (List Ed)) => match p with | (n2, v5_1, v6_1, l0_1) => mk [(0, .own 0 0 2 0 (l0_1).length false), (1, .fn (.func a1f) a1s a1c), (5, (I v5_1)), (6, (I v6_1))] [(0, some (0, .buf 2 (l0_1.map EdA)))]) (fun p => match p with | (n2, v5_1, v6_1, l0_1) => p_slices_DeleteFunc_Sapi_Edge_api_Edge_L1 K a1 n2 v5_1 v6_1 l0_1 = some o1) (fun p => p.1) ?_ (K, r1, (w64 (r1 + 1)), a0) hy _
   rintro ⟨n2, v5_1, v6_1, l0_1⟩ cl hy
   cases n2 with | zero => cases hy | succ n2 => ?_
   change At _ cl (mk _ _) _
   replace hy : p_slices_DeleteFunc_Sapi_Edge_api_Edge_L1 K a1 (n2+1) v5_1 v6_1 l0_1 = some o1 := hy
   rw [p_slices_DeleteFunc_Sapi_Edge_api_Edge_L1] at hy
   refine at_seq <| reg 4 r <| mv r r r <| mv r r r <| lno slB41 r r r <| bn r r r r r <| dn <| cd r (fun h4 => ?_) (fun h4 => ?_)
   ·replace hy := ifT hy h4
    refine at_skip <| at_seq <| at_block <| reg 6 r <| mv r r r <| mv r r r <| ?_
    obtain ⟨i2, qi2, bi2, hy⟩ := bdI hy
    obtain ⟨v3, xv3, hy⟩ := gtI hy
    refine ixP' sl41 qi2 bi2 r r r r <| ldP (f := EdA) tk47 xv3 r r r r r <| rg_alloc (s := 1) (gd_of r) zc47 (elems_one (by rfl)) (lt_ok r) <| str tk47 r r r r r r r <| dn <| reg 4 r <| mv r r r <| ldw tk47 r r r r r r <| ?_
    obtain ⟨r4, qr4, hy⟩ := bndI hy
    refine clv (a1h qr4) a1k r r r r a1l (puL3 a1p (.cons (pu_Ed _) (.nil)) a1q) (.one (pu_B _)) r <| nt r r r <| dn <| cd r (fun h5 => ?_) (fun h5 => ?_)
    ·replace hy := ifT hy h5
     refine reg 5 r <| mv r r r <| mv r r r <| ldw tk47 r r r r r r <| ?_
     obtain ⟨i5, qi5, bi5, hy⟩ := bdI hy
     obtain ⟨v6, xv6, hy⟩ := gtI hy
     refine ixP' sl41 qi5 bi5 r r r r <| stP (f := EdA) (v3) tk47 xv6 r r r r r r <| dn <| reg1 3 r <| mv r r r <| bn r r r r r <| asg r r r <| dn <| at_bn <| reg1 3 r <| mv r r r <| bn r r r r r <| asg r r r <| dn <| againI (n2, (w64 (v5_1 + 1)), (w64 (v6_1 + 1)), (l0_1.set i5 v3)) r hy (Nat.lt_succ_self _) (.k r (by simp) (.k r r (.k r r (.k r r .nil)))) (.k r r .nil)
    ·replace hy := ifF hy h5
     refine at_skip <| at_bn <| reg1 3 r <| mv r r r <| bn r r r r r <| asg r r r <| dn <| againI (n2, v5_1, (w64 (v6_1 + 1)), l0_1) r hy (Nat.lt_succ_self _) (.k r r (.k r r (.k r r (.k r r .nil)))) (.k r r .nil)
   ·replace hy := ifF hy h4
    refine at_exit <| at_te <| at_te <| at_inBlock <| ?_
    replace hy := sj hy
    subst hy
    refine metI (v5_1, l0_1) r hc1 (.k r r (.k r r .nil)) (.k r r .nil)
  ·rintro ⟨v5_2, l0_2⟩ cl hy
   subst hk1
   change At _ cl (mk _ _) _
   refine reg 4 r <| mv r r r <| mv r r r <| ?_
   obtain ⟨i7, qi7, bi7, hy⟩ := bdI hy
   refine sloB sl41 qi7 (Nat.le_of_lt_succ bi7) r r r r <| ?_
   obtain ⟨k8, hy⟩ := guI hy
   refine clrP (f := EdA) (l := l0_2) se41 (by first | exact k8 | simpa using k8) r r r <| dn <| reg 4 r <| mv r r r <| mv r r r <| ?_
   obtain ⟨i9, qi9, bi9, hy⟩ := bdI hy
   refine sloF sl41 qi9 (Nat.le_of_lt_succ bi9) r r r r <| asg r r r <| dn <| at_ret <| ?_
   replace hy := sj hy
   subst hy
   exact outOw (g1 := EdA) r (.inl r) r r pu_Ed r
def p_tower_Build_L2 (K : Nat) (a0 : (List Int)) (v43_4 : Int) (l2_1 : (List (Option (List Int)))) : Nat → Int → Int → (List Int) → Option ((List Int) × (List (Option (List Int))))
 | 0, _, _, _ => none
 | n+1, v68_2, v69_2, l4_2 => (bif (decide (v69_2 < v68_2)) then (bdP 8 v69_2 fun i15 => gtP l4_2 i15 fun v16 => p_tower_Build_L2 K a0 v43_4 l2_1 n v68_2 (w64 (v69_2 + 1)) (l4_2.set i15 (w64 ((w64 ((a0.length : Int) - 1)) - (Int.tmod v43_4 (a0.length : Int)))))) else some (l4_2, l2_1))
def p_tower_Build_L1 (K : Nat) (a0 : (List Int)) (a1 : (List Int)) : Nat → Int → (List Int) → (List Int) → (List Int) → (List (Option (List Int))) → Option ((List Int) × (List Int) × (List (Option (List Int))))
 | 0, _, _, _, _, _ => none
 | n+1, v43_4, v3_4, v3_4_1, l4_4, l2_4 => (bif (decide (v43_4 < (w64 (2 * (a0.length : Int))))) then (((nzP (a0.length : Int) ((((bif (decide (v43_4 ≥ (a0.length : Int))) then (ixP a1 (w64 ((w64 ((a0.length : Int) - 1)) - (Int.tmod v43_4 (a0.length : Int)))) fun v8 => (bdP 9 v8 fun i9 => guP (List.length (List.map I l4_4) = 8) (((p_slices_Clone_Sint_int_o K l4_4 i9).bind fun r10 => (bdP l2_4.length (w64 ((w64 ((a0.length : Int) - 1)) - (Int.tmod v43_4 (a0.length : Int)))) fun i11 => gtP l2_4 i11 fun v12 => some (l2_4.set i11 (some r10))))))) else some l2_4) : Option (List (Option (List Int)))).bind fun l2_1 => (ixP a1 (w64 ((w64 ((a0.length : Int) - 1)) - (Int.tmod v43_4 (a0.length : Int)))) fun v14 => p_tower_Build_L2 K a0 v43_4 l2_1 K v14 0 l4_4)))) : Option ((List Int) × (List (Option (List Int))))).bind fun (l4_3, l2_3) => p_tower_Build_L1 K a0 a1 n (w64 (v43_4 + 1)) v3_4 v3_4_1 l4_3 l2_3) else some (v3_4, v3_4_1, l2_4))
def p_tower_Build (K : Nat) (a0 : (List Int)) (a1 : (List Int)) : Option (Tw × Int) :=
 (bif ((a0.length : Int) == 0) then some ((Tw.mk [] [] []), 1) else (bif ((a1.length : Int) != (a0.length : Int)) then some ((Tw.mk [] [] []), 1) else ((p_ring_Right K a0).bind fun r1 => (bif (!r1) then some ((Tw.mk [] [] []), 1) else ((p_slices_ContainsFunc_Sint_int K a1 (fun (x0 : Int) => p_tower_Build_1 K x0)).bind fun r2 => (bif r2 then some ((Tw.mk [] [] []), 1) else ((p_slices_Clone_Sint_int K a0).bind fun r3 => ((p_slices_Clone_Sint_int K a1).bind fun r4 => (mkP 24 (a0.length : Int) fun i5 => ((p_tower_Build_L1 K a0 a1 K 0 r3 r4 (List.replicate 8 (0 : Int)) (List.replicate i5 (none : (Option (List Int)))) : Option ((List Int) × (List Int) × (List (Option (List Int))))).bind fun (v3_5, v3_5_1, l2_5) => some ((Tw.mk v3_5 v3_5_1 (l2_5.map fun o => o.getD [])), 0)))))))))))
theorem w_tower_Build {K : Nat} {a0 : (List Int)} {a1 : (List Int)} {y : (Tw × Int)} (hy : p_tower_Build K a0 a1 = some y) : Does PP GV 18 [] [((SL 1 I) a0), ((SL 1 I) a1)] [] [] (.tup [(TwA y.1), (I y.2)]) := by
 unfold p_tower_Build at hy
 refine does_of at18 r (le_ok r) <| ?_
 rintro ⟨_, base, w0, F⟩ rfl
 refine reg 2 r <| rg_alloc (s := 1) (gd_of r) zc32 (elems_one (by rfl)) (lt_ok r) <| asg r r r <| dn <| reg 3 r <| mv r r r <| lnf (f := I) slB29 r r r <| asg r r r <| dn <| reg 1 r <| asg r r r <| dn <| at_seq <| reg 18 r <| mv r r r <| bn r r r r r <| mv r r r <| cas 17 r (fun h1 => ?_) (fun h1 => ?_)
 ·replace hy := ifT hy h1
  refine sk r r <| sk r r <| sk r r <| sk r r <| pkt r r r r r <| mv r r r <| sk r r <| sk r r <| sk r r <| pkt r r r r r <| mv r r r <| sk r r <| sk r r <| sk r r <| pkt r r r r r <| dn <| cdt r <| reg 3 r <| bld bd32 r r r r <| str tk32 r r r r r r r <| asg r r r <| dn <| at_ret <| cellN I 1 0 1 r r <| cellN I 1 1 1 r r <| cellN (SL 1 I) 1 2 1 r r <| ?_
  replace hy := sj hy
  subst hy
  exact endZ [] (rs := [_, _]) r (by simp) (.inl r) (.cell _ _ _ _ _ _ _ _ _ _ _ _ _ r r r tk32 r (.tmp _ _ _ _ r .nil)) (by simp) (PuL.rn (xs := [(TwA (Tw.mk [] [] [])), (I 1)]) (.cons (pu_Tw _) (.cons (pu_I _) (.nil))))
 ·replace hy := ifF hy h1
  refine mv r r r <| lnf (f := I) slB29 r r r <| mv r r r <| bn r r r r r <| pkf r r r r r <| mv r r r <| cas 23 r (fun h2 => ?_) (fun h2 => ?_)
  ·replace hy := ifT hy h2
   refine sk r r <| sk r r <| sk r r <| pkt r r r r r <| mv r r r <| sk r r <| sk r r <| sk r r <| pkt r r r r r <| dn <| cdt r <| reg 3 r <| bld bd32 r r r r <| str tk32 r r r r r r r <| asg r r r <| dn <| at_ret <| cellN I 1 0 1 r r <| cellN I 1 1 1 r r <| cellN (SL 1 I) 1 2 1 r r <| ?_
   replace hy := sj hy
   subst hy
   exact endZ [] (rs := [_, _]) r (by simp) (.inl r) (.cell _ _ _ _ _ _ _ _ _ _ _ _ _ r r r tk32 r (.tmp _ _ _ _ r .nil)) (by simp) (PuL.rn (xs := [(TwA (Tw.mk [] [] [])), (I 1)]) (.cons (pu_Tw _) (.cons (pu_I _) (.nil))))
  ·replace hy := ifF hy h2
   refine mv r r r <| ?_
   obtain ⟨r1, qr1, hy⟩ := bndI hy
   refine clp (w_ring_Right qr1) ca39 r r (.cons ((pu_l 1 pu_I) _) (.nil)) (.one (pu_B _)) r <| nt r r r <| pkf r r r r r <| mv r r r <| cas 28 r (fun h3 => ?_) (fun h3 => ?_)
   ·replace hy := ifT hy h3
    refine sk r r <| sk r r <| sk r r <| pkt r r r r r <| dn <| cdt r <| reg 3 r <| bld bd32 r r r r <| str tk32 r r r r r r r <| asg r r r <| dn <| at_ret <| cellN I 1 0 1 r r <| cellN I 1 1 1 r r <| cellN (SL 1 I) 1 2 1 r r <| ?_
    replace hy := sj hy
    subst hy
    exact endZ [] (rs := [_, _]) r (by simp) (.inl r) (.cell _ _ _ _ _ _ _ _ _ _ _ _ _ r r r tk32 r (.tmp _ _ _ _ r .nil)) (by simp) (PuL.rn (xs := [(TwA (Tw.mk [] [] [])), (I 1)]) (.cons (pu_Tw _) (.cons (pu_I _) (.nil))))
   ·replace hy := ifF hy h3
    refine mv r r r <| mv r r r <| ?_
    obtain ⟨r2, qr2, hy⟩ := bndI hy
    refine clp (w_slices_ContainsFunc_Sint_int (a1h := fun h => w_tower_Build_1 h) (a1k := ca37) (a1l := ⟨r, r⟩) (a1p := .nil) (a1q := .nil) qr2) ca40 r r (.cons ((pu_l 1 pu_I) _) (.cons (pu_fn (.nil) (.nil)) (.nil))) (.one (pu_B _)) r <| pkf r r r r r <| dn <| cd r (fun h4 => ?_) (fun h4 => ?_)
    ·replace hy := ifT hy h4
     refine reg 3 r <| bld bd32 r r r r <| str tk32 r r r r r r r <| asg r r r <| dn <| at_ret <| cellN I 1 0 1 r r <| cellN I 1 1 1 r r <| cellN (SL 1 I) 1 2 1 r r <| ?_
     replace hy := sj hy
     subst hy
     exact endZ [] (rs := [_, _]) r (by simp) (.inl r) (.cell _ _ _ _ _ _ _ _ _ _ _ _ _ r r r tk32 r (.tmp _ _ _ _ r .nil)) (by simp) (PuL.rn (xs := [(TwA (Tw.mk [] [] [])), (I 1)]) (.cons (pu_Tw _) (.cons (pu_I _) (.nil))))
    ·replace hy := ifF hy h4
     refine at_skip <| regd mixed 9 r <| mv r r r <| ?_
     obtain ⟨r3, qr3, hy⟩ := bndI hy
     refine clp (w_slices_Clone_Sint_int qr3) ca41 r r (.cons ((pu_l 1 pu_I) _) (.nil)) (.one ((pu_l 1 pu_I) _)) r <| mv r r r <| ?_
     obtain ⟨r4, qr4, hy⟩ := bndI hy
     refine clp (w_slices_Clone_Sint_int qr4) ca41 r r (.cons ((pu_l 1 pu_I) _) (.nil)) (.one ((pu_l 1 pu_I) _)) r <| mv r r r <| ?_
     obtain ⟨i5, qi5, bi5, hy⟩ := mkI hy
     refine mksP (f := (NL 1 I)) none 2 se30 qi5 bi5 r r r r r r <| bld bd32 r r r r <| rg_alloc (s := 3) (gd_of r) zc32 (elems_one (by rfl)) (lt_ok r) <| str tk32 r r r r r r r <| dn ⟨by kernel_rfl, ?_⟩
     refine reg 1 r <| alA I 0 8 4 zc88 r r r r <| dn <| ?_
     obtain ⟨o1, hy, k1, hk1, hc1⟩ := bndK hy
     refine meetI (fun (p : (List Int) × (List Int) × (List (Option (List Int))) × Nat × Nat × Nat) => match p with | (v3_5, v3_5_1, l2_5, g1_1, g2_1, g3_1) => mk [(4, .ptr 1 g1_1 0 0), (8, .ptr 3 g3_1 0 0)] [(1, some (g1_1, .buf 3 [.agg [.v (.slice none 0 0), .v (.slice none 0 0), .v (.slice none 0 0)]])), (2, some (g2_1, .buf 1 (l2_5.map (NL 1 I)))), (3, some (g3_1, .buf 3 [.agg [((SL 1 I) v3_5), ((SL 1 I) v3_5_1), .own 2 g2_1 1 0 (l2_5).length false]]))]) (fun p => match p with | (v3_5, v3_5_1, l2_5, g1_1, g2_1, g3_1) => k1 (v3_5, v3_5_1, l2_5) = some y) ?_ ?_
     ·skip
      refine reg 3 r <| mv r r r <| bn r r r r r <| mv r r r <| dn <| at_block <| wk (T' := [(1, ((SL 1 I) a1)), (4, .ptr 1 _ 0 0), (6, (I (a0.length : Int))), (8, .ptr 3 _ 0 0), (9, .ptr 4 _ 0 0), (42, (I (w64 (2 * (a0.length : Int))))), (43, (I 0))]) (H' := [(1, some (_, .buf 3 [.agg [.v (.slice none 0 0), .v (.slice none 0 0), .v (.slice none 0 0)]])), (2, some (_, .buf 1 ((List.replicate i5 (none : (Option (List Int)))).map (NL 1 I)))), (3, some (_, .buf 3 [.agg [((SL 1 I) r3), ((SL 1 I) r4), .own 2 _ 1 0 ((List.replicate i5 (none : (Option (List Int))))).length false]])), (4, some (_, .buf 1 ((List.replicate 8 (0 : Int)).map I)))]) (.k r r (.k r r (.k r r (.k r r (.k r r (.k r r (.k r r .nil))))))) (.k r r (.k r r (.k r r (.k r r .nil)))) <| loopI (fun (p : Nat × Int × (List Int) × (List Int) × (List Int) × (List (Option (List Int))) × Nat × Nat × Nat × Nat) => match p with | (n2, v43_4, v3_4, v3_4_1, l4_4, l2_4, g1_2, g2_2, g3_2, g4_2) => mk [(1, ((SL 1 I) a1)), (4, .ptr 1 g1_2 0 0), (6, (I (a0.length : Int))), (8, .ptr 3 g3_2 0 0), (9, .ptr 4 g4_2 0 0), (42, (I (w64 (2 * (a0.length : Int))))), (43, (I v43_4))] [(1, some (g1_2, .buf 3 [.agg [.v (.slice none 0 0), .v (.slice none 0 0), .v (.slice none 0 0)]])), (2, some (g2_2, .buf 1 (l2_4.map (NL 1 I)))), (3, some (g3_2, .buf 3 [.agg [((SL 1 I) v3_4), ((SL 1 I) v3_4_1), .own 2 g2_2 1 0 (l2_4).length false]])), (4, some (g4_2, .buf 1 (l4_4.map I)))]) (fun p => match p with | (n2, v43_4, v3_4, v3_4_1, l4_4, l2_4, g1_2, g2_2, g3_2, g4_2) => p_tower_Build_L1 K a0 a1 n2 v43_4 v3_4 v3_4_1 l4_4 l2_4 = some o1) (fun p => p.1) ?_ (K, 0, r3, r4, (List.replicate 8 (0 : Int)), (List.replicate i5 (none : (Option (List Int)))), _, _, _, _) hy _
      rintro ⟨n2, v43_4, v3_4, v3_4_1, l4_4, l2_4, g1_2, g2_2, g3_2, g4_2⟩ cl hy
      cases n2 with | zero => cases hy | succ n2 => ?_
      change At _ cl (mk _ _) _
      replace hy : p_tower_Build_L1 K a0 a1 (n2+1) v43_4 v3_4 v3_4_1 l4_4 l2_4 = some o1 := hy
      rw [p_tower_Build_L1] at hy
      refine reg 1 r <| bn r r r r r <| dn <| at_seq <| cd r (fun h7 => ?_) (fun h7 => ?_)
      ·replace hy := ifT hy h7
       refine at_skip <| ?_
       obtain ⟨o3, hy, k3, hk3, hc3⟩ := bndK hy
       refine meetI (fun (p : (List Int) × (List (Option (List Int))) × Nat × Nat × Nat × Nat) => match p with | (l4_3, l2_3, g1_3, g2_3, g3_3, g4_3) => mk [(1, ((SL 1 I) a1)), (4, .ptr 1 g1_3 0 0), (6, (I (a0.length : Int))), (8, .ptr 3 g3_3 0 0), (9, .ptr 4 g4_3 0 0), (42, (I (w64 (2 * (a0.length : Int))))), (43, (I v43_4))] [(1, some (g1_3, .buf 3 [.agg [.v (.slice none 0 0), .v (.slice none 0 0), .v (.slice none 0 0)]])), (2, some (g2_3, .buf 1 (l2_3.map (NL 1 I)))), (3, some (g3_3, .buf 3 [.agg [((SL 1 I) v3_4), ((SL 1 I) v3_4_1), .own 2 g2_3 1 0 (l2_3).length false]])), (4, some (g4_3, .buf 1 (l4_3.map I)))]) (fun p => match p with | (l4_3, l2_3, g1_3, g2_3, g3_3, g4_3) => k3 (l4_3, l2_3) = some o1) ?_ ?_
       ·skip
        refine at_block <| reg 2 r <| mv r r r <| asg r r r <| dn <| reg 7 r <| mv r r r <| bn r r r r r <| mv r r r <| mv r r r <| ?_
        obtain ⟨k6, hy⟩ := nzI hy
        refine rm r r r r k6 <| bn r r r r r <| asg r r r <| dn <| ?_
        obtain ⟨o4, hy, k4, hk4, hc4⟩ := bndK hy
        refine meetI (fun (p : (List (Option (List Int))) × Nat × Nat × Nat × Nat) => match p with | (l2_1, g1_4, g2_4, g3_4, g4_4) => mk [(1, ((SL 1 I) a1)), (4, .ptr 1 g1_4 0 0), (6, (I (a0.length : Int))), (8, .ptr 3 g3_4 0 0), (9, .ptr 4 g4_4 0 0), (11, (I (w64 ((w64 ((a0.length : Int) - 1)) - (Int.tmod v43_4 (a0.length : Int)))))), (42, (I (w64 (2 * (a0.length : Int))))), (43, (I v43_4))] [(1, some (g1_4, .buf 3 [.agg [.v (.slice none 0 0), .v (.slice none 0 0), .v (.slice none 0 0)]])), (2, some (g2_4, .buf 1 (l2_1.map (NL 1 I)))), (3, some (g3_4, .buf 3 [.agg [((SL 1 I) v3_4), ((SL 1 I) v3_4_1), .own 2 g2_4 1 0 (l2_1).length false]])), (4, some (g4_4, .buf 1 (l4_4.map I)))]) (fun p => match p with | (l2_1, g1_4, g2_4, g3_4, g4_4) => k4 l2_1 = some o3) ?_ ?_
        ·skip
         refine reg 3 r <| mv r r r <| mv r r r <| bn r r r r r <| dn <| cd r (fun h10 => ?_) (fun h10 => ?_)
         ·replace hy := ifT hy h10
          refine regd1 mixed 11 r <| fa fo32_2 r r r <| ld tk30 r r r r r r <| mv r r r <| mv r r r <| mv r r r <| ?_
          obtain ⟨i7, v8, qi7, xv8, hy⟩ := ixI hy
          refine fixP (f := I) sl29 qi7 xv8 r r r r <| fld tk3 r r r r <| ?_
          obtain ⟨i9, qi9, bi9, hy⟩ := bdI hy
          obtain ⟨ki9, hy⟩ := guI hy
          refine slA ar88 ki9 qi9 (Nat.le_of_lt_succ bi9) r r r r r <| ?_
          obtain ⟨r10, qr10, hy⟩ := bndI hy
          refine clo1 (s := 4) (w_slices_Clone_Sint_int_o qr10) ca41 r (.one ((pu_l 1 pu_I) _)) r r pu_I ?_ r ?_
          ·exact .cons _ _ _ _ (rnOwn (List.Mem.head _) r) .nil
          obtain ⟨i11, qi11, bi11, hy⟩ := bdI hy
          obtain ⟨v12, xv12, hy⟩ := gtI hy
          refine ixP' sl30 qi11 bi11 r r r r <| stP (f := (NL 1 I)) ((some r10)) tk29 xv12 r r r r r (by cases v12 <;> rfl) <| dn ⟨by kernel_rfl, ?_⟩
          replace hy := sj hy
          subst hy
          refine metI ((l2_4.set i11 (some r10)), _, _, _, _) r hc4 (.k r r (.k r r (.k r r (.k r r (.k r r (.k r r (.k r r (.k r r .nil)))))))) (.k r r (.k r r (.k r (by simp) (.k r r .nil))))
         ·replace hy := ifF hy h10
          refine at_skip <| ?_
          replace hy := sj hy
          subst hy
          refine metI (l2_4, _, _, _, _) r hc4 (.k r r (.k r r (.k r r (.k r r (.k r r (.k r r (.k r r (.k r r .nil)))))))) (.k r r (.k r r (.k r r (.k r r .nil))))
        ·rintro ⟨l2_1, g1_4, g2_4, g3_4, g4_4⟩ cl hy
         subst hk4
         change At _ cl (mk _ _) _
         refine reg 5 r <| mv r r r <| mv r r r <| ?_
         obtain ⟨i13, v14, qi13, xv14, hy⟩ := ixI hy
         refine fixP (f := I) sl29 qi13 xv14 r r r r <| fld tk3 r r r r <| mv r r r <| dn <| at_block <| wk (T' := [(1, ((SL 1 I) a1)), (4, .ptr 1 _ 0 0), (6, (I (a0.length : Int))), (8, .ptr 3 _ 0 0), (9, .ptr 4 _ 0 0), (11, (I (w64 ((w64 ((a0.length : Int) - 1)) - (Int.tmod v43_4 (a0.length : Int)))))), (42, (I (w64 (2 * (a0.length : Int))))), (43, (I v43_4)), (68, (I v14)), (69, (I 0))]) (H' := [(1, some (_, .buf 3 [.agg [.v (.slice none 0 0), .v (.slice none 0 0), .v (.slice none 0 0)]])), (2, some (_, .buf 1 (l2_1.map (NL 1 I)))), (3, some (_, .buf 3 [.agg [((SL 1 I) v3_4), ((SL 1 I) v3_4_1), .own 2 _ 1 0 (l2_1).length false]])), (4, some (_, .buf 1 (l4_4.map I)))]) (.k r r (.k r r (.k r r (.k r r (.k r r (.k r r (.k r r (.k r r (.k r r (.k r r .nil)))))))))) (.k r r (.k r r (.k r r (.k r r .nil)))) <| loopI (fun (p : Nat × Int × Int × (List Int) × Nat × Nat × Nat × Nat) => match p with | (n5, v68_2, v69_2, l4_2, g1_5, g2_5, g3_5, g4_5) => mk [(1, ((SL 1 I) a1)), (4, .ptr 1 g1_5 0 0), (6, (I (a0.length : Int))), (8, .ptr 3 g3_5 0 0), (9, .ptr 4 g4_5 0 0), (11, (I (w64 ((w64 ((a0.length : Int) - 1)) - (Int.tmod v43_4 (a0.length : Int)))))), (42, (I (w64 (2 * (a0.length : Int))))), (43, (I v43_4)), (68, (I v68_2)), (69, (I v69_2))] [(1, some (g1_5, .buf 3 [.agg [.v (.slice none 0 0), .v (.slice none 0 0), .v (.slice none 0 0)]])), (2, some (g2_5, .buf 1 (l2_1.map (NL 1 I)))), (3, some (g3_5, .buf 3 [.agg [((SL 1 I) v3_4), ((SL 1 I) v3_4_1), .own 2 g2_5 1 0 (l2_1).length false]])), (4, some (g4_5, .buf 1 (l4_2.map I)))]) (fun p => match p with | (n5, v68_2, v69_2, l4_2, g1_5, g2_5, g3_5, g4_5) => p_tower_Build_L2 K a0 v43_4 l2_1 n5 v68_2 v69_2 l4_2 = some o3) (fun p => p.1) ?_ (K, v14, 0, l4_4, _, _, _, _) hy _
         rintro ⟨n5, v68_2, v69_2, l4_2, g1_5, g2_5, g3_5, g4_5⟩ cl hy
         cases n5 with | zero => cases hy | succ n5 => ?_
         change At _ cl (mk _ _) _
         replace hy : p_tower_Build_L2 K a0 v43_4 l2_1 (n5+1) v68_2 v69_2 l4_2 = some o3 := hy
         rw [p_tower_Build_L2] at hy
         refine reg 1 r <| bn r r r r r <| dn <| at_seq <| cd r (fun h11 => ?_) (fun h11 => ?_)
         ·replace hy := ifT hy h11
          refine at_skip <| at_seq <| at_block <| reg 2 r <| mv r r r <| asg r r r <| dn <| reg1 4 r <| mv r r r <| mv r r r <| ?_
          obtain ⟨i15, qi15, bi15, hy⟩ := bdI hy
          obtain ⟨v16, xv16, hy⟩ := gtI hy
          refine ixA ar88 qi15 bi15 r r r r r <| stP (f := I) ((w64 ((w64 ((a0.length : Int) - 1)) - (Int.tmod v43_4 (a0.length : Int))))) tk3 xv16 r r r r r r <| dn <| at_bn <| reg1 2 r <| bn r r r r r <| mv r r r <| dn <| againI (n5, v68_2, (w64 (v69_2 + 1)), (l4_2.set i15 (w64 ((w64 ((a0.length : Int) - 1)) - (Int.tmod v43_4 (a0.length : Int))))), _, _, _, _) r hy (Nat.lt_succ_self _) (.k r r (.k r r (.k r r (.k r r (.k r r (.k r r (.k r r (.k r r (.k r r (.k r r .nil)))))))))) (.k r r (.k r r (.k r r (.k r r .nil))))
         ·replace hy := ifF hy h11
          refine at_exit <| at_te <| at_te <| at_inBlock <| at_bn <| ?_
          replace hy := sj hy
          subst hy
          refine metI (l4_2, l2_1, _, _, _, _) r hc3 (.k r r (.k r r (.k r r (.k r r (.k r r (.k r r (.k r r .nil))))))) (.k r r (.k r r (.k r r (.k r r .nil))))
       ·rintro ⟨l4_3, l2_3, g1_3, g2_3, g3_3, g4_3⟩ cl hy
        subst hk3
        change At _ cl (mk _ _) _
        refine reg1 2 r <| bn r r r r r <| mv r r r <| dn <| againI (n2, (w64 (v43_4 + 1)), v3_4, v3_4_1, l4_3, l2_3, _, _, _, _) r hy (Nat.lt_succ_self _) (.k r r (.k r r (.k r r (.k r r (.k r r (.k r r (.k r r .nil))))))) (.k r r (.k r r (.k r r (.k r r .nil))))
      ·replace hy := ifF hy h7
       refine at_exit <| at_te <| at_te <| at_inBlock <| ?_
       replace hy := sj hy
       subst hy
       refine metI (v3_4, v3_4_1, l2_4, _, _, _) r hc1 (.k r r (.k r r .nil)) (.k r r (.k r r (.k r r .nil)))
     ·rintro ⟨v3_5, v3_5_1, l2_5, g1_1, g2_1, g3_1⟩ cl hy
      subst hk1
      change At _ cl (mk _ _) _
      refine reg 3 r <| ldw tk32 r r r r r r <| str tk32 r r r r r r r <| asg r r r <| dn <| at_ret <| nslF (f := I) (l := l2_5) 2 r <| cellL 1 2 (m' := (l2_5.map fun o => o.getD []).length) (by simp) r r <| cellF (f := (SL 1 I)) (l := (l2_5.map fun o => o.getD [])) 1 2 2 r r r (pu_l 1 pu_I) r <| ?_
      replace hy := sj hy
      subst hy
      exact endZ [] (rs := [_, _]) r (by simp) (.inl r) (.cell _ _ _ _ _ _ _ _ _ _ _ _ _ r r r tk32 r (.tmp _ _ _ _ r .nil)) (by simp) (PuL.rn (xs := [(TwA (Tw.mk v3_5 v3_5_1 (l2_5.map fun o => o.getD []))), (I 0)]) (.cons (pu_Tw _) (.cons (pu_I _) (.nil))))
def p_tower_Right (K : Nat) (a0 : Tw) : Option Bool :=
 ((p_tower_Build K a0.tokens a0.heights).bind fun r1 => (bif (r1.2 == 0) then ((p_tower_Same K r1.1 a0).bind fun r2 => some r2) else some false))
theorem w_tower_Right {K : Nat} {a0 : Tw} {y : Bool} (hy : p_tower_Right K a0 = some y) : Does PP GV 70 [] [(TwA a0)] [] [] (B y) := by
 unfold p_tower_Right at hy
 refine does_of at70 r (le_ok r) <| ?_
 rintro ⟨_, base, w0, F⟩ rfl
 refine reg 2 r <| bx 1 r r r r <| asg r r r <| dn <| reg 11 r <| fa fo32_0 r r r <| ld tk29 r r r r r r <| fa fo32_1 r r r <| ld tk29 r r r r r r <| ?_
 obtain ⟨r1, qr1, hy⟩ := bndI hy
 refine clp (w_tower_Build qr1) ca18 r r (.cons ((pu_l 1 pu_I) _) (.cons ((pu_l 1 pu_I) _) (.nil))) (.tup (.cons (pu_Tw _) (.cons (pu_I _) (.nil)))) r <| mv r r r <| ext r r r r <| ext r r r r <| rg_alloc (s := 2) (gd_of r) zc32 (elems_one (by rfl)) (lt_ok r) <| str tk32 r r r r r r r <| asg r r r <| dn <| reg 8 r <| mv r r r <| bn r r r r r <| mv r r r <| cas 15 r (fun h1 => ?_) (fun h1 => ?_)
 ·replace hy := ifT hy h1
  refine ldw tk32 r r r r r r <| ldw tk32 r r r r r r <| ?_
  obtain ⟨r2, qr2, hy⟩ := bndI hy
  refine clp (w_tower_Same qr2) ca97 r r (.cons (pu_Tw _) (.cons (pu_Tw _) (.nil))) (.one (pu_B _)) r <| pkt r r r r r <| asg r r r <| dn <| at_ret <| ?_
  replace hy := sj hy
  subst hy
  exact out1 r (.inl r) (look_of r) r (pu_B _)
 ·replace hy := ifF hy h1
  refine sk r r <| sk r r <| sk r r <| pkf r r r r r <| asg r r r <| dn <| at_ret <| ?_
  replace hy := sj hy
  subst hy
  exact out1 r (.inl r) (look_of r) r (pu_B _)
def p_tour_walk_along (K : Nat) (a0 : Tour_walk_) (a1 : Int) (a2 : Int) : Option (Bool × Tour_walk_) :=
 (bdP a0.way.length (w64 ((a0.way.length : Int) - 1)) fun i1 => gtP a0.way i1 fun v2 => (bif (v2 != a1) then some (false, (Tour_walk_.mk a0.way a0.came a0.met)) else (bif (decide ((w64 ((a0.way.length : Int) - 1)) > 0)) then (bdP a0.way.length (w64 ((w64 ((a0.way.length : Int) - 1)) - 1)) fun i3 => gtP a0.way i3 fun v4 => (bif (v4 == a2) then (bdP (a0.way.length + 1) (w64 ((a0.way.length : Int) - 1)) fun i5 => some (true, (Tour_walk_.mk (List.take i5 a0.way) a0.came a0.met))) else (bif (decide (((a0.came.get? a2).getD 0) > 0)) then some (false, (Tour_walk_.mk a0.way a0.came a0.met)) else (apP 8 a0.way.length [a2].length (some (true, (Tour_walk_.mk (a0.way ++ [a2]) (a0.came.set a2 (w64 (((a0.came.get? a2).getD 0) + 1))) a0.met))))))) else (bif (decide (((a0.came.get? a2).getD 0) > 0)) then some (false, (Tour_walk_.mk a0.way a0.came a0.met)) else (apP 8 a0.way.length [a2].length (some (true, (Tour_walk_.mk (a0.way ++ [a2]) (a0.came.set a2 (w64 (((a0.came.get? a2).getD 0) + 1))) a0.met))))))))
theorem w_tour_walk_along {K : Nat} {a0 : Tour_walk_} {a1 : Int} {a2 : Int} {y : (Bool × Tour_walk_)} (hy : p_tour_walk_along K a0 a1 a2 = some y) : Does PP GV 115 (wkO I (Value.int .i64) I a0.way a0.came a0.met) [.ptr 0 0 0 0, (I a1), (I a2)] [0, 2, 3] (wkO I (Value.int .i64) I y.2.way y.2.came y.2.met) (B y.1) := by
 unfold p_tour_walk_along at hy
 refine does_of at115 r (le_ok r) <| ?_
 rintro ⟨_, base, w0, F⟩ rfl
 refine reg 1 r <| asg r r r <| dn <| reg 7 r <| mv r r r <| nck r r r <| fa fo135_0 r r r <| ld tk29 r r r r r r <| lno slB29 r r r <| bn r r r r r <| asg r r r <| dn <| at_seq <| at_block <| reg 10 r <| mv r r r <| nck r r r <| fa fo135_0 r r r <| ld tk29 r r r r r r <| mv r r r <| ?_
 obtain ⟨i1, qi1, bi1, hy⟩ := bdI hy
 obtain ⟨v2, xv2, hy⟩ := gtI hy
 refine ixP' sl29 qi1 bi1 r r r r <| ldP (f := I) tk3 xv2 r r r r r <| mv r r r <| bn r r r r r <| asg r r r <| dn <| cd r (fun h1 => ?_) (fun h1 => ?_)
 ·replace hy := ifT hy h1
  refine reg 1 r <| asg r r r <| dn <| at_ret <| ?_
  replace hy := sj hy
  subst hy
  exact outWk (g1 := I) (ev := I) r (.inl r) r (pu_B _) pu_I pu_I r r r r
 ·replace hy := ifF hy h1
  refine reg 15 r <| mv r r r <| bn r r r r r <| mv r r r <| cas 44 r (fun h2 => ?_) (fun h2 => ?_)
  ·replace hy := ifT hy h2
   refine mv r r r <| nck r r r <| fa fo135_0 r r r <| ld tk29 r r r r r r <| mv r r r <| bn r r r r r <| ?_
   obtain ⟨i3, qi3, bi3, hy⟩ := bdI hy
   obtain ⟨v4, xv4, hy⟩ := gtI hy
   refine ixP' sl29 qi3 bi3 r r r r <| ldP (f := I) tk3 xv4 r r r r r <| mv r r r <| bn r r r r r <| pkt r r r r r <| asg r r r <| dn <| cd r (fun h3 => ?_) (fun h3 => ?_)
   ·replace hy := ifT hy h3
    refine reg1 10 r <| mv r r r <| mv r r r <| nck r r r <| fa fo135_0 r r r <| ld tk29 r r r r r r <| mv r r r <| ?_
    obtain ⟨i5, qi5, bi5, hy⟩ := bdI hy
    refine sloF sl29 qi5 (Nat.le_of_lt_succ bi5) r r r r <| nck r r r <| fa fo135_0 r r r <| str tk29 r r r r r r r <| dn <| cutP (f := I) (l := a0.way) 1 i5 r <| cellL 0 0 (m' := (List.take i5 a0.way).length) (by rw [List.length_take]; omega) r r <| at_bn <| reg 1 r <| asg r r r <| dn <| at_ret <| ?_
    replace hy := sj hy
    subst hy
    exact outWk (g1 := I) (ev := I) r (.inl r) r (pu_B _) pu_I pu_I r r r r
   ·replace hy := ifF hy h3
    refine reg 8 r <| mv r r r <| nck r r r <| fa fo135_1 r r r <| ld tk61 r r r r r r <| mv r r r <| lkMZ (ev := I) (m := a0.came) (z0 := 0) (kInt ui3) mt61 zo3 (fun _ => Option.some_ne_none _) (fun _ _ h => h) r r r r r r <| bn r r r r r <| asg r r r <| dn <| cd r (fun h4 => ?_) (fun h4 => ?_)
    ·replace hy := ifT hy h4
     refine reg 1 r <| asg r r r <| dn <| at_ret <| ?_
     replace hy := sj hy
     subst hy
     exact outWk (g1 := I) (ev := I) r (.inl r) r (pu_B _) pu_I pu_I r r r r
    ·replace hy := ifF hy h4
     refine reg 11 r <| mv r r r <| mv r r r <| nck r r r <| fa fo135_0 r r r <| ld tk29 r r r r r r <| mv r r r <| bldsP I ([a2] : List Int) 4 se29 r r r r r r r <| ?_
     obtain ⟨k6a, k6b, hy⟩ := apI hy
     refine apoP (f := I) (l := a0.way) (zs := [a2]) se29 k6a k6b r r r r r r <| nck r r r <| fa fo135_0 r r r <| str tk29 r r r r r r r <| dn <| reg1 8 r <| mv r r r <| nck r r r <| fa fo135_1 r r r <| ld tk61 r r r r r r <| mv r r r <| lkMZ (ev := I) (m := a0.came) (z0 := 0) (kInt ui3) mt61 zo3 (fun _ => Option.some_ne_none _) (fun _ _ h => h) r r r r r r <| bn r r r r r <| upM (ev := I) (m := a0.came) (kInt ui3) mt61 (v := (w64 (((a0.came.get? a2).getD 0) + 1))) (Option.some_ne_none _) r r r r r r <| dn <| at_bn <| reg 1 r <| asg r r r <| dn <| at_ret <| ?_
     replace hy := sj hy
     subst hy
     exact outWk (g1 := I) (ev := I) r (.inl r) r (pu_B _) pu_I pu_I r r r r
  ·replace hy := ifF hy h2
   refine sk r r <| sk r r <| sk r r <| sk r r <| sk r r <| sk r r <| sk r r <| sk r r <| sk r r <| sk r r <| pkf r r r r r <| asg r r r <| dn <| cdf r <| reg 8 r <| mv r r r <| nck r r r <| fa fo135_1 r r r <| ld tk61 r r r r r r <| mv r r r <| lkMZ (ev := I) (m := a0.came) (z0 := 0) (kInt ui3) mt61 zo3 (fun _ => Option.some_ne_none _) (fun _ _ h => h) r r r r r r <| bn r r r r r <| asg r r r <| dn <| cd r (fun h3 => ?_) (fun h3 => ?_)
   ·replace hy := ifT hy h3
    refine reg 1 r <| asg r r r <| dn <| at_ret <| ?_
    replace hy := sj hy
    subst hy
    exact outWk (g1 := I) (ev := I) r (.inl r) r (pu_B _) pu_I pu_I r r r r
   ·replace hy := ifF hy h3
    refine reg 11 r <| mv r r r <| mv r r r <| nck r r r <| fa fo135_0 r r r <| ld tk29 r r r r r r <| mv r r r <| bldsP I ([a2] : List Int) 5 se29 r r r r r r r <| ?_
    obtain ⟨k7a, k7b, hy⟩ := apI hy
    refine apoP (f := I) (l := a0.way) (zs := [a2]) se29 k7a k7b r r r r r r <| nck r r r <| fa fo135_0 r r r <| str tk29 r r r r r r r <| dn <| reg1 8 r <| mv r r r <| nck r r r <| fa fo135_1 r r r <| ld tk61 r r r r r r <| mv r r r <| lkMZ (ev := I) (m := a0.came) (z0 := 0) (kInt ui3) mt61 zo3 (fun _ => Option.some_ne_none _) (fun _ _ h => h) r r r r r r <| bn r r r r r <| upM (ev := I) (m := a0.came) (kInt ui3) mt61 (v := (w64 (((a0.came.get? a2).getD 0) + 1))) (Option.some_ne_none _) r r r r r r <| dn <| at_bn <| reg 1 r <| asg r r r <| dn <| at_ret <| ?_
    replace hy := sj hy
    subst hy
    exact outWk (g1 := I) (ev := I) r (.inl r) r (pu_B _) pu_I pu_I r r r r
def p_tour_goes_L1 (K : Nat) (a1 : (List Int)) (a0 : Int) : Nat → Int → (List Int) → (Mp Int Int) → (Mp Int Int) → Option (Sum ((List Int) × (Mp Int Int) × (Mp Int Int)) Bool)
 | 0, _, _, _, _ => none
 | n+1, v32_1, l1_1, m2_1, m3_1 => (bif (decide (v32_1 < (a1.length : Int))) then (ixP a1 v32_1 fun v9 => ((p_tour_Token K a0 v9).bind fun r10 => (bif (!r10.2.2.2) then some (.inr false) else (bif r10.2.2.1 then ((p_tour_walk_along K (Tour_walk_.mk l1_1 m2_1 m3_1) r10.1 r10.2.1).bind fun r11 => (bif (!r11.1) then some (.inr false) else (bif (!r10.2.2.1) then (bdP r11.2.way.length (w64 ((r11.2.way.length : Int) - 1)) fun i12 => gtP r11.2.way i12 fun v13 => (bif (v13 != r10.1) then some (.inr false) else (bif (!r10.2.2.1) then p_tour_goes_L1 K a1 a0 n (w64 (v32_1 + 1)) r11.2.way r11.2.came (r11.2.met.set r10.1 (w64 (((r11.2.met.get? r10.1).getD 0) + 1))) else p_tour_goes_L1 K a1 a0 n (w64 (v32_1 + 1)) r11.2.way r11.2.came r11.2.met))) else (bif (!r10.2.2.1) then p_tour_goes_L1 K a1 a0 n (w64 (v32_1 + 1)) r11.2.way r11.2.came (r11.2.met.set r10.1 (w64 (((r11.2.met.get? r10.1).getD 0) + 1))) else p_tour_goes_L1 K a1 a0 n (w64 (v32_1 + 1)) r11.2.way r11.2.came r11.2.met)))) else (bif (!r10.2.2.1) then (bdP l1_1.length (w64 ((l1_1.length : Int) - 1)) fun i14 => gtP l1_1 i14 fun v15 => (bif (v15 != r10.1) then some (.inr false) else (bif (!r10.2.2.1) then p_tour_goes_L1 K a1 a0 n (w64 (v32_1 + 1)) l1_1 m2_1 (m3_1.set r10.1 (w64 (((m3_1.get? r10.1).getD 0) + 1))) else p_tour_goes_L1 K a1 a0 n (w64 (v32_1 + 1)) l1_1 m2_1 m3_1))) else (bif (!r10.2.2.1) then p_tour_goes_L1 K a1 a0 n (w64 (v32_1 + 1)) l1_1 m2_1 (m3_1.set r10.1 (w64 (((m3_1.get? r10.1).getD 0) + 1))) else p_tour_goes_L1 K a1 a0 n (w64 (v32_1 + 1)) l1_1 m2_1 m3_1)))))) else some (.inl (l1_1, m2_1, m3_1)))
def p_tour_goes (K : Nat) (a0 : Int) (a1 : (List Int)) : Option Bool :=
 (ixP a1 0 fun v2 => ((p_tour_in K a0 v2).bind fun r3 => (bif (!r3) then some false else (ixP a1 0 fun v5 => (ixP a1 0 fun v7 => ((p_tour_goes_L1 K a1 a0 K 0 [v5] ((Mp.empty : (Mp Int Int)).set v7 1) (Mp.empty : (Mp Int Int)) : Option (Sum ((List Int) × (Mp Int Int) × (Mp Int Int)) Bool)).bind fun | .inl (l1_2, m2_2, m3_2) => (bif ((l1_2.length : Int) == 1) then some ((m3_2.len : Int) == (m2_2.len : Int)) else some false) | .inr r => some r))))))
theorem w_tour_goes {K : Nat} {a0 : Int} {a1 : (List Int)} {y : Bool} (hy : p_tour_goes K a0 a1 = some y) : Does PP GV 93 [] [(I a0), ((SL 1 I) a1)] [] [] (B y) := by
 unfold p_tour_goes at hy
 refine does_of at93 r (le_ok r) <| ?_
 rintro ⟨_, base, w0, F⟩ rfl
 refine reg 1 r <| asg r r r <| dn <| at_seq <| reg 6 r <| mv r r r <| mv r r r <| ?_
 obtain ⟨i1, v2, qi1, xv2, hy⟩ := ixI hy
 refine fixP (f := I) sl29 qi1 xv2 r r r r <| fld tk3 r r r r <| ?_
 obtain ⟨r3, qr3, hy⟩ := bndI hy
 refine clp (w_tour_in qr3) ca63 r r (.cons (pu_I _) (.cons (pu_I _) (.nil))) (.one (pu_B _)) r <| nt r r r <| dn <| cd r (fun h1 => ?_) (fun h1 => ?_)
 ·replace hy := ifT hy h1
  refine reg 1 r <| asg r r r <| dn <| at_ret <| ?_
  replace hy := sj hy
  subst hy
  exact out1 r (.inl r) (look_of r) r (pu_B _)
 ·replace hy := ifF hy h1
  refine at_skip <| regd mixed 14 r <| mv r r r <| ?_
  obtain ⟨i4, v5, qi4, xv5, hy⟩ := ixI hy
  refine fixP (f := I) sl29 qi4 xv5 r r r r <| fld tk3 r r r r <| bldsP I ([v5] : List Int) 1 se29 r r r r r r r <| mkM (κ := Int) (ν := Int) (Value.int .i64) I 2 r r <| mv r r r <| ?_
  obtain ⟨i6, v7, qi6, xv7, hy⟩ := ixI hy
  refine fixP (f := I) sl29 qi6 xv7 r r r r <| fld tk3 r r r r <| inM (ev := I) (m := (Mp.empty : (Mp Int Int))) (kInt ui3) mt61 (v := 1) (Option.some_ne_none _) r r r r r r <| mv r r r <| mkM (κ := Int) (ν := Int) (Value.int .i64) I 3 r r <| bld bd135 r r r r <| bx 4 r r r r <| asg r r r <| dn ⟨by kernel_rfl, ?_⟩
  obtain ⟨o1, hy, k1, hk1, hc1⟩ := bndK hy
  refine meetI (fun (p : (List Int) × (Mp Int Int) × (Mp Int Int) × Nat × Nat × Nat × Nat) => match p with | (l1_2, m2_2, m3_2, g1_1, g2_1, g3_1, g4_1) => mk [(5, .ptr 4 g4_1 0 0)] [(1, some (g1_1, .buf 1 (l1_2.map I))), (2, some (g2_1, .map (encM (Value.int .i64) I m2_2))), (3, some (g3_1, .map (encM (Value.int .i64) I m3_2))), (4, some (g4_1, .buf 3 [.agg [.own 1 g1_1 1 0 (l1_2).length false, .mp 2 g2_1, .mp 3 g3_1]]))]) (fun p => match p with | (l1_2, m2_2, m3_2, g1_1, g2_1, g3_1, g4_1) => k1 (.inl (l1_2, m2_2, m3_2)) = some y) ?_ ?_
  ·skip
   refine reg 3 r <| mv r r r <| lnf (f := I) slB29 r r r <| mv r r r <| dn <| at_block <| wk (T' := [(0, (I a0)), (5, .ptr 4 _ 0 0), (30, ((SL 1 I) a1)), (31, (I (a1.length : Int))), (32, (I 0))]) (H' := [(1, some (_, .buf 1 ([v5].map I))), (2, some (_, .map (encM (Value.int .i64) I ((Mp.empty : (Mp Int Int)).set v7 1)))), (3, some (_, .map (encM (Value.int .i64) I (Mp.empty : (Mp Int Int))))), (4, some (_, .buf 3 [.agg [.own 1 _ 1 0 ([v5]).length false, .mp 2 _, .mp 3 _]]))]) (.k r r (.k r r (.k r r (.k r r (.k r r .nil))))) (.k r r (.k r r (.k r r (.k r r .nil)))) <| loopI (fun (p : Nat × Int × (List Int) × (Mp Int Int) × (Mp Int Int) × Nat × Nat × Nat × Nat) => match p with | (n2, v32_1, l1_1, m2_1, m3_1, g1_2, g2_2, g3_2, g4_2) => mk [(0, (I a0)), (5, .ptr 4 g4_2 0 0), (30, ((SL 1 I) a1)), (31, (I (a1.length : Int))), (32, (I v32_1))] [(1, some (g1_2, .buf 1 (l1_1.map I))), (2, some (g2_2, .map (encM (Value.int .i64) I m2_1))), (3, some (g3_2, .map (encM (Value.int .i64) I m3_1))), (4, some (g4_2, .buf 3 [.agg [.own 1 g1_2 1 0 (l1_1).length false, .mp 2 g2_2, .mp 3 g3_2]]))]) (fun p => match p with | (n2, v32_1, l1_1, m2_1, m3_1, g1_2, g2_2, g3_2, g4_2) => p_tour_goes_L1 K a1 a0 n2 v32_1 l1_1 m2_1 m3_1 = some o1) (fun p => p.1) ?_ (K, 0, [v5], ((Mp.empty : (Mp Int Int)).set v7 1), (Mp.empty : (Mp Int Int)), _, _, _, _) hy _
   rintro ⟨n2, v32_1, l1_1, m2_1, m3_1, g1_2, g2_2, g3_2, g4_2⟩ cl hy
   cases n2 with | zero => cases hy | succ n2 => ?_
   change At _ cl (mk _ _) _
   replace hy : p_tour_goes_L1 K a1 a0 (n2+1) v32_1 l1_1 m2_1 m3_1 = some o1 := hy
   rw [p_tour_goes_L1] at hy
   refine reg 1 r <| bn r r r r r <| dn <| at_seq <| cd r (fun h4 => ?_) (fun h4 => ?_)
   ·replace hy := ifT hy h4
    refine at_skip <| at_seq <| at_block <| reg 3 r <| ?_
    obtain ⟨i8, v9, qi8, xv9, hy⟩ := ixI hy
    refine fixP (f := I) sl29 qi8 xv9 r r r r <| fld tk3 r r r r <| asg r r r <| dn <| reg 12 r <| mv r r r <| mv r r r <| ?_
    obtain ⟨r10, qr10, hy⟩ := bndI hy
    refine clp (w_tour_Token qr10) ca114 r r (.cons (pu_I _) (.cons (pu_I _) (.nil))) (.tup (.cons (pu_I _) (.cons (pu_I _) (.cons (pu_B _) (.cons (pu_B _) (.nil)))))) r <| mv r r r <| ext r r r r <| ext r r r r <| ext r r r r <| ext r r r r <| asg r r r <| asg r r r <| asg r r r <| asg r r r <| dn <| at_block <| regd mixed 33 r <| mv r r r <| nt r r r <| mv r r r <| cas 47 r (fun h5 => ?_) (fun h5 => ?_)
    ·replace hy := ifT hy h5
     refine sk r r <| sk r r <| sk r r <| sk r r <| sk r r <| sk r r <| sk r r <| sk r r <| pkt r r r r r <| mv r r r <| sk r r <| sk r r <| sk r r <| sk r r <| sk r r <| sk r r <| sk r r <| sk r r <| sk r r <| sk r r <| sk r r <| sk r r <| sk r r <| sk r r <| sk r r <| sk r r <| sk r r <| sk r r <| pkt r r r r r <| asg r r r <| dn ⟨by kernel_rfl, ?_⟩
     refine cdt r <| reg 1 r <| asg r r r <| dn <| at_ret <| ?_
     replace hy := sj hy
     subst hy
     subst hk1
     replace hc1 := Option.some.inj hc1
     subst hc1
     exact out1 r (.inl r) (look_of r) r (pu_B _)
    ·replace hy := ifF hy h5
     refine mv r r r <| mv r r r <| cas 49 r (fun h6 => ?_) (fun h6 => ?_)
     ·replace hy := ifT hy h6
      refine mv r r r <| mv r r r <| mv r r r <| ?_
      obtain ⟨r11, qr11, hy⟩ := bndI hy
      refine clWk (s0 := 4) (s1 := 1) (s2 := 2) (s3 := 3) (w_tour_walk_along qr11) ca115 (pu_B _) pu_I pu_I (by decide) r r r r r r r <| nt r r r <| pkt r r r r r <| pkf r r r r r <| mv r r r <| cas 57 r (fun h7 => ?_) (fun h7 => ?_)
      ·replace hy := ifT hy h7
       refine sk r r <| sk r r <| sk r r <| sk r r <| sk r r <| sk r r <| sk r r <| sk r r <| sk r r <| sk r r <| sk r r <| sk r r <| sk r r <| sk r r <| sk r r <| sk r r <| sk r r <| sk r r <| pkt r r r r r <| asg r r r <| dn ⟨by kernel_rfl, ?_⟩
       refine cdt r <| reg 1 r <| asg r r r <| dn <| at_ret <| ?_
       replace hy := sj hy
       subst hy
       subst hk1
       replace hc1 := Option.some.inj hc1
       subst hc1
       exact out1 r (.inl r) (look_of r) r (pu_B _)
      ·replace hy := ifF hy h7
       refine mv r r r <| nt r r r <| mv r r r <| cas 60 r (fun h8 => ?_) (fun h8 => ?_)
       ·replace hy := ifT hy h8
        refine mv r r r <| nck r r r <| fa fo135_0 r r r <| ld tk29 r r r r r r <| mv r r r <| nck r r r <| fa fo135_0 r r r <| ld tk29 r r r r r r <| lno slB29 r r r <| bn r r r r r <| ?_
        obtain ⟨i12, qi12, bi12, hy⟩ := bdI hy
        obtain ⟨v13, xv13, hy⟩ := gtI hy
        refine ixP' sl29 qi12 bi12 r r r r <| ldP (f := I) tk3 xv13 r r r r r <| mv r r r <| bn r r r r r <| pkt r r r r r <| pkf r r r r r <| asg r r r <| dn ⟨by kernel_rfl, ?_⟩
        refine cd r (fun h9 => ?_) (fun h9 => ?_)
        ·replace hy := ifT hy h9
         refine reg 1 r <| asg r r r <| dn <| at_ret <| ?_
         replace hy := sj hy
         subst hy
         subst hk1
         replace hc1 := Option.some.inj hc1
         subst hc1
         exact out1 r (.inl r) (look_of r) r (pu_B _)
        ·replace hy := ifF hy h9
         refine reg 3 r <| mv r r r <| nt r r r <| asg r r r <| dn <| cd r (fun h10 => ?_) (fun h10 => ?_)
         ·replace hy := ifT hy h10
          refine reg1 8 r <| mv r r r <| nck r r r <| fa fo135_2 r r r <| ld tk61 r r r r r r <| mv r r r <| lkMZ (ev := I) (m := r11.2.met) (z0 := 0) (kInt ui3) mt61 zo3 (fun _ => Option.some_ne_none _) (fun _ _ h => h) r r r r r r <| bn r r r r r <| upM (ev := I) (m := r11.2.met) (kInt ui3) mt61 (v := (w64 (((r11.2.met.get? r10.1).getD 0) + 1))) (Option.some_ne_none _) r r r r r r <| dn <| at_bn <| at_bn <| reg1 2 r <| bn r r r r r <| mv r r r <| dn <| againI (n2, (w64 (v32_1 + 1)), r11.2.way, r11.2.came, (r11.2.met.set r10.1 (w64 (((r11.2.met.get? r10.1).getD 0) + 1))), _, _, _, _) r hy (Nat.lt_succ_self _) (.k r r (.k r r (.k r r (.k r r (.k r r .nil))))) (.k r r (.k r r (.k r r (.k r r .nil))))
         ·replace hy := ifF hy h10
          refine at_skip <| at_bn <| at_bn <| reg1 2 r <| bn r r r r r <| mv r r r <| dn <| againI (n2, (w64 (v32_1 + 1)), r11.2.way, r11.2.came, r11.2.met, _, _, _, _) r hy (Nat.lt_succ_self _) (.k r r (.k r r (.k r r (.k r r (.k r r .nil))))) (.k r r (.k r r (.k r r (.k r r .nil))))
       ·replace hy := ifF hy h8
        refine sk r r <| sk r r <| sk r r <| sk r r <| sk r r <| sk r r <| sk r r <| sk r r <| sk r r <| sk r r <| sk r r <| sk r r <| sk r r <| sk r r <| pkf r r r r r <| pkf r r r r r <| asg r r r <| dn ⟨by kernel_rfl, ?_⟩
        refine cdf r <| reg 3 r <| mv r r r <| nt r r r <| asg r r r <| dn <| cd r (fun h9 => ?_) (fun h9 => ?_)
        ·replace hy := ifT hy h9
         refine reg1 8 r <| mv r r r <| nck r r r <| fa fo135_2 r r r <| ld tk61 r r r r r r <| mv r r r <| lkMZ (ev := I) (m := r11.2.met) (z0 := 0) (kInt ui3) mt61 zo3 (fun _ => Option.some_ne_none _) (fun _ _ h => h) r r r r r r <| bn r r r r r <| upM (ev := I) (m := r11.2.met) (kInt ui3) mt61 (v := (w64 (((r11.2.met.get? r10.1).getD 0) + 1))) (Option.some_ne_none _) r r r r r r <| dn <| at_bn <| at_bn <| reg1 2 r <| bn r r r r r <| mv r r r <| dn <| againI (n2, (w64 (v32_1 + 1)), r11.2.way, r11.2.came, (r11.2.met.set r10.1 (w64 (((r11.2.met.get? r10.1).getD 0) + 1))), _, _, _, _) r hy (Nat.lt_succ_self _) (.k r r (.k r r (.k r r (.k r r (.k r r .nil))))) (.k r r (.k r r (.k r r (.k r r .nil))))
        ·replace hy := ifF hy h9
         refine at_skip <| at_bn <| at_bn <| reg1 2 r <| bn r r r r r <| mv r r r <| dn <| againI (n2, (w64 (v32_1 + 1)), r11.2.way, r11.2.came, r11.2.met, _, _, _, _) r hy (Nat.lt_succ_self _) (.k r r (.k r r (.k r r (.k r r (.k r r .nil))))) (.k r r (.k r r (.k r r (.k r r .nil))))
     ·replace hy := ifF hy h6
      refine sk r r <| sk r r <| sk r r <| sk r r <| sk r r <| pkf r r r r r <| pkf r r r r r <| mv r r r <| mv r r r <| nt r r r <| mv r r r <| cas 60 r (fun h7 => ?_) (fun h7 => ?_)
      ·replace hy := ifT hy h7
       refine mv r r r <| nck r r r <| fa fo135_0 r r r <| ld tk29 r r r r r r <| mv r r r <| nck r r r <| fa fo135_0 r r r <| ld tk29 r r r r r r <| lno slB29 r r r <| bn r r r r r <| ?_
       obtain ⟨i14, qi14, bi14, hy⟩ := bdI hy
       obtain ⟨v15, xv15, hy⟩ := gtI hy
       refine ixP' sl29 qi14 bi14 r r r r <| ldP (f := I) tk3 xv15 r r r r r <| mv r r r <| bn r r r r r <| pkt r r r r r <| pkf r r r r r <| asg r r r <| dn ⟨by kernel_rfl, ?_⟩
       refine cd r (fun h8 => ?_) (fun h8 => ?_)
       ·replace hy := ifT hy h8
        refine reg 1 r <| asg r r r <| dn <| at_ret <| ?_
        replace hy := sj hy
        subst hy
        subst hk1
        replace hc1 := Option.some.inj hc1
        subst hc1
        exact out1 r (.inl r) (look_of r) r (pu_B _)
       ·replace hy := ifF hy h8
        refine reg 3 r <| mv r r r <| nt r r r <| asg r r r <| dn <| cd r (fun h9 => ?_) (fun h9 => ?_)
        ·replace hy := ifT hy h9
         refine reg1 8 r <| mv r r r <| nck r r r <| fa fo135_2 r r r <| ld tk61 r r r r r r <| mv r r r <| lkMZ (ev := I) (m := m3_1) (z0 := 0) (kInt ui3) mt61 zo3 (fun _ => Option.some_ne_none _) (fun _ _ h => h) r r r r r r <| bn r r r r r <| upM (ev := I) (m := m3_1) (kInt ui3) mt61 (v := (w64 (((m3_1.get? r10.1).getD 0) + 1))) (Option.some_ne_none _) r r r r r r <| dn <| at_bn <| at_bn <| reg1 2 r <| bn r r r r r <| mv r r r <| dn <| againI (n2, (w64 (v32_1 + 1)), l1_1, m2_1, (m3_1.set r10.1 (w64 (((m3_1.get? r10.1).getD 0) + 1))), _, _, _, _) r hy (Nat.lt_succ_self _) (.k r r (.k r r (.k r r (.k r r (.k r r .nil))))) (.k r r (.k r r (.k r r (.k r r .nil))))
        ·replace hy := ifF hy h9
         refine at_skip <| at_bn <| at_bn <| reg1 2 r <| bn r r r r r <| mv r r r <| dn <| againI (n2, (w64 (v32_1 + 1)), l1_1, m2_1, m3_1, _, _, _, _) r hy (Nat.lt_succ_self _) (.k r r (.k r r (.k r r (.k r r (.k r r .nil))))) (.k r r (.k r r (.k r r (.k r r .nil))))
      ·replace hy := ifF hy h7
       refine sk r r <| sk r r <| sk r r <| sk r r <| sk r r <| sk r r <| sk r r <| sk r r <| sk r r <| sk r r <| sk r r <| sk r r <| sk r r <| sk r r <| pkf r r r r r <| pkf r r r r r <| asg r r r <| dn ⟨by kernel_rfl, ?_⟩
       refine cdf r <| reg 3 r <| mv r r r <| nt r r r <| asg r r r <| dn <| cd r (fun h8 => ?_) (fun h8 => ?_)
       ·replace hy := ifT hy h8
        refine reg1 8 r <| mv r r r <| nck r r r <| fa fo135_2 r r r <| ld tk61 r r r r r r <| mv r r r <| lkMZ (ev := I) (m := m3_1) (z0 := 0) (kInt ui3) mt61 zo3 (fun _ => Option.some_ne_none _) (fun _ _ h => h) r r r r r r <| bn r r r r r <| upM (ev := I) (m := m3_1) (kInt ui3) mt61 (v := (w64 (((m3_1.get? r10.1).getD 0) + 1))) (Option.some_ne_none _) r r r r r r <| dn <| at_bn <| at_bn <| reg1 2 r <| bn r r r r r <| mv r r r <| dn <| againI (n2, (w64 (v32_1 + 1)), l1_1, m2_1, (m3_1.set r10.1 (w64 (((m3_1.get? r10.1).getD 0) + 1))), _, _, _, _) r hy (Nat.lt_succ_self _) (.k r r (.k r r (.k r r (.k r r (.k r r .nil))))) (.k r r (.k r r (.k r r (.k r r .nil))))
       ·replace hy := ifF hy h8
        refine at_skip <| at_bn <| at_bn <| reg1 2 r <| bn r r r r r <| mv r r r <| dn <| againI (n2, (w64 (v32_1 + 1)), l1_1, m2_1, m3_1, _, _, _, _) r hy (Nat.lt_succ_self _) (.k r r (.k r r (.k r r (.k r r (.k r r .nil))))) (.k r r (.k r r (.k r r (.k r r .nil))))
   ·replace hy := ifF hy h4
    refine at_exit <| at_te <| at_te <| at_inBlock <| ?_
    replace hy := sj hy
    subst hy
    refine metI (l1_1, m2_1, m3_1, _, _, _, _) r hc1 (.k r r .nil) (.k r r (.k r r (.k r r (.k r r .nil))))
  ·rintro ⟨l1_2, m2_2, m3_2, g1_1, g2_1, g3_1, g4_1⟩ cl hy
   subst hk1
   change At _ cl (mk _ _) _
   refine regd mixed 20 r <| mv r r r <| nck r r r <| fa fo135_0 r r r <| ld tk29 r r r r r r <| lno slB29 r r r <| bn r r r r r <| mv r r r <| cas 94 r (fun h3 => ?_) (fun h3 => ?_)
   ·replace hy := ifT hy h3
    refine mv r r r <| nck r r r <| fa fo135_2 r r r <| ld tk61 r r r r r r <| mlM (ek := (Value.int .i64)) (ev := I) (m := m3_2) mt61 r r r r <| mv r r r <| nck r r r <| fa fo135_1 r r r <| ld tk61 r r r r r r <| mlM (ek := (Value.int .i64)) (ev := I) (m := m2_2) mt61 r r r r <| bn r r r r r <| pkt r r r r r <| asg r r r <| dn ⟨by kernel_rfl, ?_⟩
    refine at_ret <| ?_
    replace hy := sj hy
    subst hy
    exact out1 r (.inl r) (look_of r) r (pu_B _)
   ·replace hy := ifF hy h3
    refine sk r r <| sk r r <| sk r r <| sk r r <| sk r r <| sk r r <| sk r r <| sk r r <| sk r r <| sk r r <| sk r r <| pkf r r r r r <| asg r r r <| dn ⟨by kernel_rfl, ?_⟩
    refine at_ret <| ?_
    replace hy := sj hy
    subst hy
    exact out1 r (.inl r) (look_of r) r (pu_B _)
def p_tour_Right_L2 (K : Nat) (a0 : Fo) : Nat → Int → (List Int) → Int → Int → (Mp Int Int) → Option (Sum (Int × (Mp Int Int)) (Sum (Mp Int Int) Bool))
 | 0, _, _, _, _, _ => none
 | n+1, v4_1, v55_1, v56_1, v57_1, m2_1 => (bif (decide (v57_1 < v56_1)) then (ixP v55_1 v57_1 fun v14 => (bif (decide (v14 < a0.n)) then (bif (decide (((m2_1.get? v14).getD 0) > 0)) then some (.inr (.inr false)) else p_tour_Right_L2 K a0 n v4_1 v55_1 v56_1 (w64 (v57_1 + 1)) (m2_1.set v14 (w64 (((m2_1.get? v14).getD 0) + 1)))) else p_tour_Right_L2 K a0 n v4_1 v55_1 v56_1 (w64 (v57_1 + 1)) (m2_1.set v14 (w64 (((m2_1.get? v14).getD 0) + 1))))) else some (.inl (v4_1, m2_1)))
def p_tour_Right_L1 (K : Nat) (a0 : Fo) : Nat → Int → Int → (Mp Int Int) → Option (Sum (Mp Int Int) Bool)
 | 0, _, _, _ => none
 | n+1, v4_3, v18_3, m2_3 => (bif (decide (v18_3 < (a0.rings.length : Int))) then (((ixP a0.rings v18_3 fun v3 => (bif ((v3.length : Int) == 0) then some (.inr (.inr false)) else (ixP v3 0 fun v5 => (bif (decide (v5 ≤ v4_3)) then some (.inr (.inr false)) else ((p_ring_Right K v3).bind fun r6 => (bif (!r6) then some (.inr (.inr false)) else ((p_slices_Min_Sint_int K v3).bind fun r7 => (ixP v3 0 fun v9 => (bif (r7 != v9) then some (.inr (.inr false)) else ((p_tour_goes K a0.n v3).bind fun r10 => (bif (!r10) then some (.inr (.inr false)) else (ixP v3 0 fun v12 => p_tour_Right_L2 K a0 K v12 v3 (v3.length : Int) 0 m2_3)))))))))))) : Option (Sum (Int × (Mp Int Int)) (Sum (Mp Int Int) Bool))).bind fun | .inl (v4_2, m2_2) => p_tour_Right_L1 K a0 n v4_2 (w64 (v18_3 + 1)) m2_2 | .inr r => some r) else some (.inl m2_3))
def p_tour_Right_L3 (K : Nat) (a0 : Fo) (m2_4 : (Mp Int Int)) : Nat → Int → Option (Sum Unit Bool)
 | 0, _ => none
 | n+1, v79_5 => (bif (decide (v79_5 < a0.n)) then (bif (((m2_4.get? v79_5).getD 0) == 0) then some (.inr false) else p_tour_Right_L3 K a0 m2_4 n (w64 (v79_5 + 1))) else some (.inl ()))
def p_tour_Right (K : Nat) (a0 : Fo) : Option Bool :=
 ((p_tour_sized K a0.n).bind fun r1 => (bif (!r1) then some false else ((p_tour_Right_L1 K a0 K (-1) 0 (Mp.empty : (Mp Int Int)) : Option (Sum (Mp Int Int) Bool)).bind fun | .inl m2_4 => ((p_tour_Right_L3 K a0 m2_4 K 0 : Option (Sum Unit Bool)).bind fun | .inl _ => some true | .inr r => some r) | .inr r => some r)))
theorem w_tour_Right {K : Nat} {a0 : Fo} {y : Bool} (hy : p_tour_Right K a0 = some y) : Does PP GV 64 [] [(FoA a0)] [] [] (B y) := by
 unfold p_tour_Right at hy
 refine does_of at64 r (le_ok r) <| ?_
 rintro ⟨_, base, w0, F⟩ rfl
 refine reg 2 r <| bx 1 r r r r <| asg r r r <| dn <| at_seq <| reg 4 r <| fa fo81_0 r r r <| ld tk3 r r r r r r <| ?_
 obtain ⟨r1, qr1, hy⟩ := bndI hy
 refine clp (w_tour_sized qr1) ca91 r r (.cons (pu_I _) (.nil)) (.one (pu_B _)) r <| nt r r r <| dn <| cd r (fun h1 => ?_) (fun h1 => ?_)
 ·replace hy := ifT hy h1
  refine reg 1 r <| asg r r r <| dn <| at_ret <| ?_
  replace hy := sj hy
  subst hy
  exact out1 r (.inl r) (look_of r) r (pu_B _)
 ·replace hy := ifF hy h1
  refine at_skip <| reg 2 r <| mkM (κ := Int) (ν := Int) (Value.int .i64) I 2 r r <| asg r r r <| dn <| reg 1 r <| asg r r r <| dn <| ?_
  obtain ⟨o1, hy, k1, hk1, hc1⟩ := bndK hy
  refine meetI (fun (p : (Mp Int Int) × Nat × Nat) => match p with | (m2_4, g1_1, g2_1) => mk [(1, .ptr 1 g1_1 0 0), (3, .mp 2 g2_1)] [(1, some (g1_1, .buf 2 [.agg [(I a0.n), ((SL 1 (SL 1 I)) a0.rings)]])), (2, some (g2_1, .map (encM (Value.int .i64) I m2_4)))]) (fun p => match p with | (m2_4, g1_1, g2_1) => k1 (.inl m2_4) = some y) ?_ ?_
  ·skip
   refine reg 4 r <| fa fo81_1 r r r <| ld tk30 r r r r r r <| lnf (f := (SL 1 I)) slB30 r r r <| mv r r r <| dn <| at_block <| wk (T' := [(1, .ptr 1 _ 0 0), (3, .mp 2 _), (4, (I (-1))), (16, ((SL 1 (SL 1 I)) a0.rings)), (17, (I (a0.rings.length : Int))), (18, (I 0))]) (H' := [(1, some (_, .buf 2 [.agg [(I a0.n), ((SL 1 (SL 1 I)) a0.rings)]])), (2, some (_, .map (encM (Value.int .i64) I (Mp.empty : (Mp Int Int)))))]) (.k r r (.k r r (.k r r (.k r r (.k r r (.k r r .nil)))))) (.k r r (.k r r .nil)) <| loopI (fun (p : Nat × Int × Int × (Mp Int Int) × Nat × Nat) => match p with | (n2, v4_3, v18_3, m2_3, g1_2, g2_2) => mk [(1, .ptr 1 g1_2 0 0), (3, .mp 2 g2_2), (4, (I v4_3)), (16, ((SL 1 (SL 1 I)) a0.rings)), (17, (I (a0.rings.length : Int))), (18, (I v18_3))] [(1, some (g1_2, .buf 2 [.agg [(I a0.n), ((SL 1 (SL 1 I)) a0.rings)]])), (2, some (g2_2, .map (encM (Value.int .i64) I m2_3)))]) (fun p => match p with | (n2, v4_3, v18_3, m2_3, g1_2, g2_2) => p_tour_Right_L1 K a0 n2 v4_3 v18_3 m2_3 = some o1) (fun p => p.1) ?_ (K, (-1), 0, (Mp.empty : (Mp Int Int)), _, _) hy _
   rintro ⟨n2, v4_3, v18_3, m2_3, g1_2, g2_2⟩ cl hy
   cases n2 with | zero => cases hy | succ n2 => ?_
   change At _ cl (mk _ _) _
   replace hy : p_tour_Right_L1 K a0 (n2+1) v4_3 v18_3 m2_3 = some o1 := hy
   rw [p_tour_Right_L1] at hy
   refine reg 1 r <| bn r r r r r <| dn <| at_seq <| cd r (fun h4 => ?_) (fun h4 => ?_)
   ·replace hy := ifT hy h4
    refine at_skip <| ?_
    obtain ⟨o3, hy, k3, hk3, hc3⟩ := bndK hy
    refine meetI (fun (p : Int × (Mp Int Int) × Nat × Nat) => match p with | (v4_2, m2_2, g1_3, g2_3) => mk [(1, .ptr 1 g1_3 0 0), (3, .mp 2 g2_3), (4, (I v4_2)), (16, ((SL 1 (SL 1 I)) a0.rings)), (17, (I (a0.rings.length : Int))), (18, (I v18_3))] [(1, some (g1_3, .buf 2 [.agg [(I a0.n), ((SL 1 (SL 1 I)) a0.rings)]])), (2, some (g2_3, .map (encM (Value.int .i64) I m2_2)))]) (fun p => match p with | (v4_2, m2_2, g1_3, g2_3) => k3 (.inl (v4_2, m2_2)) = some o1) ?_ ?_
    ·skip
     refine at_block <| reg 3 r <| ?_
     obtain ⟨i2, v3, qi2, xv3, hy⟩ := ixI hy
     refine fixP (f := (SL 1 I)) sl30 qi2 xv3 r r r r <| fld tk29 r r r r <| asg r r r <| dn <| at_seq <| regd mixed 30 r <| mv r r r <| lnf (f := I) slB29 r r r <| bn r r r r r <| mv r r r <| cas 25 r (fun h6 => ?_) (fun h6 => ?_)
     ·replace hy := ifT hy h6
      refine sk r r <| sk r r <| sk r r <| sk r r <| sk r r <| pkt r r r r r <| mv r r r <| sk r r <| sk r r <| sk r r <| pkt r r r r r <| mv r r r <| sk r r <| sk r r <| sk r r <| sk r r <| sk r r <| sk r r <| pkt r r r r r <| mv r r r <| sk r r <| sk r r <| sk r r <| sk r r <| sk r r <| pkt r r r r r <| dn ⟨by kernel_rfl, ?_⟩
      refine cdt r <| reg 1 r <| asg r r r <| dn <| at_ret <| ?_
      replace hy := sj hy
      subst hy
      subst hk3
      replace hc3 := Option.some.inj hc3
      subst hc3
      subst hk1
      replace hc1 := Option.some.inj hc1
      subst hc1
      exact out1 r (.inl r) (look_of r) r (pu_B _)
     ·replace hy := ifF hy h6
      refine mv r r r <| ?_
      obtain ⟨i4, v5, qi4, xv5, hy⟩ := ixI hy
      refine fixP (f := I) sl29 qi4 xv5 r r r r <| fld tk3 r r r r <| mv r r r <| bn r r r r r <| pkf r r r r r <| mv r r r <| cas 32 r (fun h7 => ?_) (fun h7 => ?_)
      ·replace hy := ifT hy h7
       refine sk r r <| sk r r <| sk r r <| pkt r r r r r <| mv r r r <| sk r r <| sk r r <| sk r r <| sk r r <| sk r r <| sk r r <| pkt r r r r r <| mv r r r <| sk r r <| sk r r <| sk r r <| sk r r <| sk r r <| pkt r r r r r <| dn ⟨by kernel_rfl, ?_⟩
       refine cdt r <| reg 1 r <| asg r r r <| dn <| at_ret <| ?_
       replace hy := sj hy
       subst hy
       subst hk3
       replace hc3 := Option.some.inj hc3
       subst hc3
       subst hk1
       replace hc1 := Option.some.inj hc1
       subst hc1
       exact out1 r (.inl r) (look_of r) r (pu_B _)
      ·replace hy := ifF hy h7
       refine mv r r r <| ?_
       obtain ⟨r6, qr6, hy⟩ := bndI hy
       refine clp (w_ring_Right qr6) ca39 r r (.cons ((pu_l 1 pu_I) _) (.nil)) (.one (pu_B _)) r <| nt r r r <| pkf r r r r r <| mv r r r <| cas 37 r (fun h8 => ?_) (fun h8 => ?_)
       ·replace hy := ifT hy h8
        refine sk r r <| sk r r <| sk r r <| sk r r <| sk r r <| sk r r <| pkt r r r r r <| mv r r r <| sk r r <| sk r r <| sk r r <| sk r r <| sk r r <| pkt r r r r r <| dn ⟨by kernel_rfl, ?_⟩
        refine cdt r <| reg 1 r <| asg r r r <| dn <| at_ret <| ?_
        replace hy := sj hy
        subst hy
        subst hk3
        replace hc3 := Option.some.inj hc3
        subst hc3
        subst hk1
        replace hc1 := Option.some.inj hc1
        subst hc1
        exact out1 r (.inl r) (look_of r) r (pu_B _)
       ·replace hy := ifF hy h8
        refine mv r r r <| ?_
        obtain ⟨r7, qr7, hy⟩ := bndI hy
        refine clp (w_slices_Min_Sint_int qr7) ca92 r r (.cons ((pu_l 1 pu_I) _) (.nil)) (.one (pu_I _)) r <| mv r r r <| ?_
        obtain ⟨i8, v9, qi8, xv9, hy⟩ := ixI hy
        refine fixP (f := I) sl29 qi8 xv9 r r r r <| fld tk3 r r r r <| bn r r r r r <| pkf r r r r r <| mv r r r <| cas 45 r (fun h9 => ?_) (fun h9 => ?_)
        ·replace hy := ifT hy h9
         refine sk r r <| sk r r <| sk r r <| sk r r <| sk r r <| pkt r r r r r <| dn ⟨by kernel_rfl, ?_⟩
         refine cdt r <| reg 1 r <| asg r r r <| dn <| at_ret <| ?_
         replace hy := sj hy
         subst hy
         subst hk3
         replace hc3 := Option.some.inj hc3
         subst hc3
         subst hk1
         replace hc1 := Option.some.inj hc1
         subst hc1
         exact out1 r (.inl r) (look_of r) r (pu_B _)
        ·replace hy := ifF hy h9
         refine fa fo81_0 r r r <| ld tk3 r r r r r r <| mv r r r <| ?_
         obtain ⟨r10, qr10, hy⟩ := bndI hy
         refine clp (w_tour_goes qr10) ca93 r r (.cons (pu_I _) (.cons ((pu_l 1 pu_I) _) (.nil))) (.one (pu_B _)) r <| nt r r r <| pkf r r r r r <| dn ⟨by kernel_rfl, ?_⟩
         refine cd r (fun h10 => ?_) (fun h10 => ?_)
         ·replace hy := ifT hy h10
          refine reg 1 r <| asg r r r <| dn <| at_ret <| ?_
          replace hy := sj hy
          subst hy
          subst hk3
          replace hc3 := Option.some.inj hc3
          subst hc3
          subst hk1
          replace hc1 := Option.some.inj hc1
          subst hc1
          exact out1 r (.inl r) (look_of r) r (pu_B _)
         ·replace hy := ifF hy h10
          refine at_skip <| reg 4 r <| mv r r r <| ?_
          obtain ⟨i11, v12, qi11, xv12, hy⟩ := ixI hy
          refine fixP (f := I) sl29 qi11 xv12 r r r r <| fld tk3 r r r r <| asg r r r <| dn <| reg 3 r <| mv r r r <| lnf (f := I) slB29 r r r <| mv r r r <| dn <| at_block <| wk (T' := [(1, .ptr 1 _ 0 0), (3, .mp 2 _), (4, (I v12)), (16, ((SL 1 (SL 1 I)) a0.rings)), (17, (I (a0.rings.length : Int))), (18, (I v18_3)), (55, ((SL 1 I) v3)), (56, (I (v3.length : Int))), (57, (I 0))]) (H' := [(1, some (_, .buf 2 [.agg [(I a0.n), ((SL 1 (SL 1 I)) a0.rings)]])), (2, some (_, .map (encM (Value.int .i64) I m2_3)))]) (.k r r (.k r r (.k r r (.k r r (.k r r (.k r r (.k r r (.k r r (.k r r .nil))))))))) (.k r r (.k r r .nil)) <| loopI (fun (p : Nat × Int × (List Int) × Int × Int × (Mp Int Int) × Nat × Nat) => match p with | (n4, v4_1, v55_1, v56_1, v57_1, m2_1, g1_4, g2_4) => mk [(1, .ptr 1 g1_4 0 0), (3, .mp 2 g2_4), (4, (I v4_1)), (16, ((SL 1 (SL 1 I)) a0.rings)), (17, (I (a0.rings.length : Int))), (18, (I v18_3)), (55, ((SL 1 I) v55_1)), (56, (I v56_1)), (57, (I v57_1))] [(1, some (g1_4, .buf 2 [.agg [(I a0.n), ((SL 1 (SL 1 I)) a0.rings)]])), (2, some (g2_4, .map (encM (Value.int .i64) I m2_1)))]) (fun p => match p with | (n4, v4_1, v55_1, v56_1, v57_1, m2_1, g1_4, g2_4) => p_tour_Right_L2 K a0 n4 v4_1 v55_1 v56_1 v57_1 m2_1 = some o3) (fun p => p.1) ?_ (K, v12, v3, (v3.length : Int), 0, m2_3, _, _) hy _
          rintro ⟨n4, v4_1, v55_1, v56_1, v57_1, m2_1, g1_4, g2_4⟩ cl hy
          cases n4 with | zero => cases hy | succ n4 => ?_
          change At _ cl (mk _ _) _
          replace hy : p_tour_Right_L2 K a0 (n4+1) v4_1 v55_1 v56_1 v57_1 m2_1 = some o3 := hy
          rw [p_tour_Right_L2] at hy
          refine reg 1 r <| bn r r r r r <| dn <| at_seq <| cd r (fun h12 => ?_) (fun h12 => ?_)
          ·replace hy := ifT hy h12
           refine at_skip <| at_seq <| at_block <| reg 3 r <| ?_
           obtain ⟨i13, v14, qi13, xv14, hy⟩ := ixI hy
           refine fixP (f := I) sl29 qi13 xv14 r r r r <| fld tk3 r r r r <| asg r r r <| dn <| at_seq <| reg 10 r <| mv r r r <| fa fo81_0 r r r <| ld tk3 r r r r r r <| bn r r r r r <| mv r r r <| cas 65 r (fun h13 => ?_) (fun h13 => ?_)
           ·replace hy := ifT hy h13
            refine mv r r r <| mv r r r <| lkMZ (ev := I) (m := m2_1) (z0 := 0) (kInt ui3) mt61 zo3 (fun _ => Option.some_ne_none _) (fun _ _ h => h) r r r r r r <| bn r r r r r <| pkt r r r r r <| dn <| cd r (fun h14 => ?_) (fun h14 => ?_)
            ·replace hy := ifT hy h14
             refine reg 1 r <| asg r r r <| dn <| at_ret <| ?_
             replace hy := sj hy
             subst hy
             subst hk3
             replace hc3 := Option.some.inj hc3
             subst hc3
             subst hk1
             replace hc1 := Option.some.inj hc1
             subst hc1
             exact out1 r (.inl r) (look_of r) r (pu_B _)
            ·replace hy := ifF hy h14
             refine at_skip <| reg1 5 r <| mv r r r <| mv r r r <| lkMZ (ev := I) (m := m2_1) (z0 := 0) (kInt ui3) mt61 zo3 (fun _ => Option.some_ne_none _) (fun _ _ h => h) r r r r r r <| bn r r r r r <| upM (ev := I) (m := m2_1) (kInt ui3) mt61 (v := (w64 (((m2_1.get? v14).getD 0) + 1))) (Option.some_ne_none _) r r r r r r <| dn <| at_bn <| reg1 2 r <| bn r r r r r <| mv r r r <| dn <| againI (n4, v4_1, v55_1, v56_1, (w64 (v57_1 + 1)), (m2_1.set v14 (w64 (((m2_1.get? v14).getD 0) + 1))), _, _) r hy (Nat.lt_succ_self _) (.k r r (.k r r (.k r r (.k r r (.k r r (.k r r (.k r r (.k r r (.k r r .nil))))))))) (.k r r (.k r r .nil))
           ·replace hy := ifF hy h13
            refine sk r r <| sk r r <| sk r r <| sk r r <| pkf r r r r r <| dn <| cdf r <| at_skip <| reg1 5 r <| mv r r r <| mv r r r <| lkMZ (ev := I) (m := m2_1) (z0 := 0) (kInt ui3) mt61 zo3 (fun _ => Option.some_ne_none _) (fun _ _ h => h) r r r r r r <| bn r r r r r <| upM (ev := I) (m := m2_1) (kInt ui3) mt61 (v := (w64 (((m2_1.get? v14).getD 0) + 1))) (Option.some_ne_none _) r r r r r r <| dn <| at_bn <| reg1 2 r <| bn r r r r r <| mv r r r <| dn <| againI (n4, v4_1, v55_1, v56_1, (w64 (v57_1 + 1)), (m2_1.set v14 (w64 (((m2_1.get? v14).getD 0) + 1))), _, _) r hy (Nat.lt_succ_self _) (.k r r (.k r r (.k r r (.k r r (.k r r (.k r r (.k r r (.k r r (.k r r .nil))))))))) (.k r r (.k r r .nil))
          ·replace hy := ifF hy h12
           refine at_exit <| at_te <| at_te <| at_inBlock <| at_bn <| ?_
           replace hy := sj hy
           subst hy
           refine metI (v4_1, m2_1, _, _) r hc3 (.k r r (.k r r (.k r r (.k r r (.k r r (.k r r .nil)))))) (.k r r (.k r r .nil))
    ·rintro ⟨v4_2, m2_2, g1_3, g2_3⟩ cl hy
     subst hk3
     change At _ cl (mk _ _) _
     refine reg1 2 r <| bn r r r r r <| mv r r r <| dn <| againI (n2, v4_2, (w64 (v18_3 + 1)), m2_2, _, _) r hy (Nat.lt_succ_self _) (.k r r (.k r r (.k r r (.k r r (.k r r (.k r r .nil)))))) (.k r r (.k r r .nil))
   ·replace hy := ifF hy h4
    refine at_exit <| at_te <| at_te <| at_inBlock <| ?_
    replace hy := sj hy
    subst hy
    refine metI (m2_3, _, _) r hc1 (.k r r (.k r r .nil)) (.k r r (.k r r .nil))
  ·rintro ⟨m2_4, g1_1, g2_1⟩ cl hy
   subst hk1
   change At _ cl (mk _ _) _
   obtain ⟨o5, hy, k5, hk5, hc5⟩ := bndK hy
   refine meetI (fun (p : Unit) => match p with | _ => mk [] []) (fun p => match p with | _ => k5 (.inl ()) = some y) ?_ ?_
   ·skip
    refine reg 3 r <| fa fo81_0 r r r <| ld tk3 r r r r r r <| mv r r r <| dn <| at_block <| wk (T' := [(3, .mp 2 _), (78, (I a0.n)), (79, (I 0))]) (H' := [(2, some (_, .map (encM (Value.int .i64) I m2_4)))]) (.k r r (.k r r (.k r r .nil))) (.k r r .nil) <| loopI (fun (p : Nat × Int × Nat) => match p with | (n6, v79_5, g2_6) => mk [(3, .mp 2 g2_6), (78, (I a0.n)), (79, (I v79_5))] [(2, some (g2_6, .map (encM (Value.int .i64) I m2_4)))]) (fun p => match p with | (n6, v79_5, g2_6) => p_tour_Right_L3 K a0 m2_4 n6 v79_5 = some o5) (fun p => p.1) ?_ (K, 0, _) hy _
    rintro ⟨n6, v79_5, g2_6⟩ cl hy
    cases n6 with | zero => cases hy | succ n6 => ?_
    change At _ cl (mk _ _) _
    replace hy : p_tour_Right_L3 K a0 m2_4 (n6+1) v79_5 = some o5 := hy
    rw [p_tour_Right_L3] at hy
    refine reg 1 r <| bn r r r r r <| dn <| at_seq <| cd r (fun h5 => ?_) (fun h5 => ?_)
    ·replace hy := ifT hy h5
     refine at_skip <| at_seq <| at_block <| reg 2 r <| mv r r r <| asg r r r <| dn <| reg 4 r <| mv r r r <| mv r r r <| lkMZ (ev := I) (m := m2_4) (z0 := 0) (kInt ui3) mt61 zo3 (fun _ => Option.some_ne_none _) (fun _ _ h => h) r r r r r r <| bn r r r r r <| dn <| cd r (fun h6 => ?_) (fun h6 => ?_)
     ·replace hy := ifT hy h6
      refine reg 1 r <| asg r r r <| dn <| at_ret <| ?_
      replace hy := sj hy
      subst hy
      subst hk5
      replace hc5 := Option.some.inj hc5
      subst hc5
      exact out1 r (.inl r) (look_of r) r (pu_B _)
     ·replace hy := ifF hy h6
      refine at_skip <| at_bn <| reg1 2 r <| bn r r r r r <| mv r r r <| dn <| againI (n6, (w64 (v79_5 + 1)), _) r hy (Nat.lt_succ_self _) (.k r r (.k r r (.k r r .nil))) (.k r r .nil)
    ·replace hy := ifF hy h5
     refine at_exit <| at_te <| at_te <| at_inBlock <| ?_
     replace hy := sj hy
     subst hy
     refine metI () r hc5 .nil .nil
   ·rintro ⟨⟩ cl hy
    subst hk5
    change At _ cl (mk _ _) _
    refine reg 1 r <| asg r r r <| dn <| at_ret <| ?_
    replace hy := sj hy
    subst hy
    exact out1 r (.inl r) (look_of r) r (pu_B _)
def p_tour_asked (K : Nat) (a0 : Fo) (a1 : Int) (a2 : Int) : Option Int :=
 ((p_tour_Right K a0).bind fun r1 => (bif (!r1) then some 1 else ((p_tour_in K a0.n a1).bind fun r2 => (bif (!r2) then some 10 else ((p_tour_in K a0.n a2).bind fun r3 => (bif (!r3) then some 10 else some 0))))))
theorem w_tour_asked {K : Nat} {a0 : Fo} {a1 : Int} {a2 : Int} {y : Int} (hy : p_tour_asked K a0 a1 a2 = some y) : Does PP GV 132 [] [(FoA a0), (I a1), (I a2)] [] [] (I y) := by
 unfold p_tour_asked at hy
 refine does_of at132 r (le_ok r) <| ?_
 rintro ⟨_, base, w0, F⟩ rfl
 refine reg 2 r <| bx 1 r r r r <| asg r r r <| dn <| at_seq <| at_block <| reg 4 r <| ldw tk81 r r r r r r <| ?_
 obtain ⟨r1, qr1, hy⟩ := bndI hy
 refine clp (w_tour_Right qr1) ca64 r r (.cons (pu_Fo _) (.nil)) (.one (pu_B _)) r <| nt r r r <| asg r r r <| dn <| cd r (fun h1 => ?_) (fun h1 => ?_)
 ·replace hy := ifT hy h1
  refine reg 1 r <| asg r r r <| dn <| at_ret <| ?_
  replace hy := sj hy
  subst hy
  exact out1 r (.inl r) (look_of r) r (pu_I _)
 ·replace hy := ifF hy h1
  refine reg 13 r <| fa fo81_0 r r r <| ld tk3 r r r r r r <| mv r r r <| ?_
  obtain ⟨r2, qr2, hy⟩ := bndI hy
  refine clp (w_tour_in qr2) ca63 r r (.cons (pu_I _) (.cons (pu_I _) (.nil))) (.one (pu_B _)) r <| nt r r r <| mv r r r <| cas 17 r (fun h2 => ?_) (fun h2 => ?_)
  ·replace hy := ifT hy h2
   refine sk r r <| sk r r <| sk r r <| sk r r <| sk r r <| pkt r r r r r <| asg r r r <| dn <| cdt r <| reg 1 r <| asg r r r <| dn <| at_ret <| ?_
   replace hy := sj hy
   subst hy
   exact out1 r (.inl r) (look_of r) r (pu_I _)
  ·replace hy := ifF hy h2
   refine fa fo81_0 r r r <| ld tk3 r r r r r r <| mv r r r <| ?_
   obtain ⟨r3, qr3, hy⟩ := bndI hy
   refine clp (w_tour_in qr3) ca63 r r (.cons (pu_I _) (.cons (pu_I _) (.nil))) (.one (pu_B _)) r <| nt r r r <| pkf r r r r r <| asg r r r <| dn <| cd r (fun h3 => ?_) (fun h3 => ?_)
   ·replace hy := ifT hy h3
    refine reg 1 r <| asg r r r <| dn <| at_ret <| ?_
    replace hy := sj hy
    subst hy
    exact out1 r (.inl r) (look_of r) r (pu_I _)
   ·replace hy := ifF hy h3
    refine at_skip <| at_bn <| reg 1 r <| asg r r r <| dn <| at_ret <| ?_
    replace hy := sj hy
    subst hy
    exact out1 r (.inl r) (look_of r) r (pu_I _)
def p_forest_there (K : Nat) (a0 : Fo) (a1 : (List Int)) : Option Int :=
 ((p_tour_Right K a0).bind fun r1 => (bif (!r1) then some 1 else ((p_slices_ContainsFunc_Sint_int K a1 (fun (x0 : Int) => p_forest_there_1 K x0 a0)).bind fun r2 => (bif r2 then some 10 else some 0))))
theorem w_forest_there {K : Nat} {a0 : Fo} {a1 : (List Int)} {y : Int} (hy : p_forest_there K a0 a1 = some y) : Does PP GV 130 [] [(FoA a0), ((SL 1 I) a1)] [] [] (I y) := by
 unfold p_forest_there at hy
 refine does_of at130 r (le_ok r) <| ?_
 rintro ⟨_, base, w0, F⟩ rfl
 refine reg 2 r <| bx 1 r r r r <| asg r r r <| dn <| at_seq <| reg 3 r <| ldw tk81 r r r r r r <| ?_
 obtain ⟨r1, qr1, hy⟩ := bndI hy
 refine clp (w_tour_Right qr1) ca64 r r (.cons (pu_Fo _) (.nil)) (.one (pu_B _)) r <| nt r r r <| dn <| cd r (fun h1 => ?_) (fun h1 => ?_)
 ·replace hy := ifT hy h1
  refine reg 1 r <| asg r r r <| dn <| at_ret <| ?_
  replace hy := sj hy
  subst hy
  exact out1 r (.inl r) (look_of r) r (pu_I _)
 ·replace hy := ifF hy h1
  refine at_skip <| at_seq <| frzB (e := (FoA a0)) 2 1 r r (pu_Fo _) <| reg 3 r <| mv r r r <| rg_makeFunc (gd_of r) (evL_of r) (evL_of r) r (lt_ok r) <| ?_
  obtain ⟨r2, qr2, hy⟩ := bndI hy
  refine clp (w_slices_ContainsFunc_Sint_int (a1h := fun h => w_forest_there_1 h) (a1k := ca140) (a1l := ⟨r, r⟩) (a1p := .nil) (a1q := .cons ((pu_fp pu_Fo) _) (.nil)) qr2) ca40 r r (.cons ((pu_l 1 pu_I) _) (.cons (pu_fn (.nil) (.cons ((pu_fp pu_Fo) _) (.nil))) (.nil))) (.one (pu_B _)) r <| dn <| cd r (fun h2 => ?_) (fun h2 => ?_)
  ·replace hy := ifT hy h2
   refine reg 1 r <| asg r r r <| dn <| at_ret <| ?_
   replace hy := sj hy
   subst hy
   exact out1 r (.inl r) (look_of r) r (pu_I _)
  ·replace hy := ifF hy h2
   refine at_skip <| reg 1 r <| asg r r r <| dn <| at_ret <| ?_
   replace hy := sj hy
   subst hy
   exact out1 r (.inl r) (look_of r) r (pu_I _)
end Go.Ar
namespace Go.Ar
open Go.RowKit
def p_seek_tree_marked (K : Nat) (a0 : Seek_tree_) (a1 : Int) : Option Bool :=
 (bif (decide (a1 < a0.n)) then some (decide ((((a0.outside.get? a1).getD []).length : Int) > 0)) else some false)
theorem w_seek_tree_marked {K : Nat} {a0 : Seek_tree_} {a1 : Int} {y : Bool} (hy : p_seek_tree_marked K a0 a1 = some y) : Does PP GV 20 [] [((FP Seek_tree_A) a0), (I a1)] [] [] (B y) := by
 unfold p_seek_tree_marked at hy
 refine does_of at20 r (le_ok r) <| ?_
 rintro ⟨_, base, w0, F⟩ rfl
 refine reg 1 r <| asg r r r <| dn <| reg 17 r <| mv r r r <| mv r r r <| fnck r r r <| ffa fo64_0 r r r <| fld tk3 r r r r <| bn r r r r r <| mv r r r <| cas 11 r (fun h1 => ?_) (fun h1 => ?_)
 ·replace hy := ifT hy h1
  refine mv r r r <| fnck r r r <| ffa fo64_3 r r r <| fld tk62 r r r r <| mv r r r <| lkFZ (ev := (SL 2 EdA)) (m := a0.outside) (z0 := []) (kInt ui3) mt62 zo41 (fun _ => Option.some_ne_none _) nil_lst r r r r r <| lnf (f := EdA) slB41 r r r <| bn r r r r r <| pkt r r r r r <| asg r r r <| dn <| at_ret <| ?_
  replace hy := sj hy
  subst hy
  exact out1 r (.inl r) (look_of r) r (pu_B _)
 ·replace hy := ifF hy h1
  refine sk r r <| sk r r <| sk r r <| sk r r <| sk r r <| sk r r <| sk r r <| sk r r <| pkf r r r r r <| asg r r r <| dn <| at_ret <| ?_
  replace hy := sj hy
  subst hy
  exact out1 r (.inl r) (look_of r) r (pu_B _)
def p_seek_tree_starts_1 (K : Nat) (a0 : Int) (a1 : Seek_tree_) : Option Bool :=
 ((p_seek_tree_marked K a1 a0).bind fun r1 => some (!r1))
theorem w_seek_tree_starts_1 {K : Nat} {a0 : Int} {a1 : Seek_tree_} {y : Bool} (hy : p_seek_tree_starts_1 K a0 a1 = some y) : Does PP GV 55 [] [(I a0), ((FP (FP Seek_tree_A)) a1)] [] [] (B y) := by
 unfold p_seek_tree_starts_1 at hy
 refine does_of at55 r (le_ok r) <| ?_
 rintro ⟨_, base, w0, F⟩ rfl
 refine reg 1 r <| asg r r r <| dn <| reg 5 r <| fld tk56 r r r r <| mv r r r <| ?_
 obtain ⟨r1, qr1, hy⟩ := bndI hy
 refine clp (w_seek_tree_marked qr1) ca20 r r (.cons ((pu_fp pu_Seek_tree_) _) (.cons (pu_I _) (.nil))) (.one (pu_B _)) r <| nt r r r <| asg r r r <| dn <| at_ret <| ?_
 replace hy := sj hy
 subst hy
 exact out1 r (.inl r) (look_of r) r (pu_B _)
def p_seek_tree_starts (K : Nat) (a0 : Seek_tree_) : Option (List Int) :=
 ((p_slices_Clone_Sint_int_n K a0.tokens).bind fun r1 => ((p_slices_DeleteFunc_Sint_int K r1 (fun (x0 : Int) => p_seek_tree_starts_1 K x0 a0)).bind fun r2 => guP (r2.1 ≤ r2.2.length) (some (List.take r2.1 r2.2))))
theorem w_seek_tree_starts {K : Nat} {a0 : Seek_tree_} {y : (List Int)} (hy : p_seek_tree_starts K a0 = some y) : Does PP GV 29 [] [((FP Seek_tree_A) a0)] [] [] ((SL 1 I) y) := by
 unfold p_seek_tree_starts at hy
 refine does_of at29 r (le_ok r) <| ?_
 rintro ⟨_, base, w0, F⟩ rfl
 refine reg 2 r <| bx 1 r r r r <| asg r r r <| dn <| frzB (e := ((FP Seek_tree_A) a0)) 1 1 r r ((pu_fp pu_Seek_tree_) _) <| reg 8 r <| fld tk56 r r r r <| fnck r r r <| ffa fo64_1 r r r <| fld tk29 r r r r <| ?_
 obtain ⟨r1, qr1, hy⟩ := bndI hy
 refine clN (g1 := I) 2 (w_slices_Clone_Sint_int_n qr1) ca41 r r pu_I (.cons ((pu_l 1 pu_I) _) (.nil)) r <| rg_makeFunc (gd_of r) (evL_of r) (evL_of r) r (lt_ok r) <| ?_
 obtain ⟨r2, qr2, hy⟩ := bndI hy
 refine cloW (s := 2) (w_slices_DeleteFunc_Sint_int (a1h := fun h => w_seek_tree_starts_1 h) (a1k := ca55) (a1l := ⟨r, r⟩) (a1p := .nil) (a1q := .cons ((pu_fp (pu_fp pu_Seek_tree_)) _) (.nil)) qr2) ca54 r r r pu_I ?_ r ?_
 ·exact .cons _ _ _ _ (rnOwn (List.Mem.head _) (by first | rfl | simp)) (.cons _ _ _ _ (.pu _ (pu_fn (.nil) (.cons ((pu_fp (pu_fp pu_Seek_tree_)) _) (.nil)))) (.nil))
 obtain ⟨k3, hy⟩ := guI hy
 refine asg r r r <| dn <| at_ret <| frzS (f := I) (l := r2.2) 2 2 r r pu_I k3 <| ?_
 replace hy := sj hy
 subst hy
 exact out1 r (.inl r) (look_of r) r ((pu_l 1 pu_I) _)
def p_seek_tree_leads (K : Nat) (a0 : Seek_tree_) (a1 : Ed) : Option Bool :=
 some ((w64 (((a0.of_.get? a1.u).getD 0) + ((a0.of_.get? a1.v).getD 0))) == 1)
theorem w_seek_tree_leads {K : Nat} {a0 : Seek_tree_} {a1 : Ed} {y : Bool} (hy : p_seek_tree_leads K a0 a1 = some y) : Does PP GV 32 [] [((FP Seek_tree_A) a0), (EdA a1)] [] [] (B y) := by
 unfold p_seek_tree_leads at hy
 refine does_of at32 r (le_ok r) <| ?_
 rintro ⟨_, base, w0, F⟩ rfl
 refine reg 2 r <| bx 1 r r r r <| asg r r r <| dn <| regd mixed 17 r <| mv r r r <| fnck r r r <| ffa fo64_2 r r r <| fld tk61 r r r r <| fa fo47_0 r r r <| ld tk3 r r r r r r <| lkFZ (ev := I) (m := a0.of_) (z0 := 0) (kInt ui3) mt61 zo3 (fun _ => Option.some_ne_none _) (fun _ _ h => h) r r r r r <| mv r r r <| fnck r r r <| ffa fo64_2 r r r <| fld tk61 r r r r <| fa fo47_1 r r r <| ld tk3 r r r r r r <| lkFZ (ev := I) (m := a0.of_) (z0 := 0) (kInt ui3) mt61 zo3 (fun _ => Option.some_ne_none _) (fun _ _ h => h) r r r r r <| bn r r r r r <| bn r r r r r <| asg r r r <| dn ⟨by kernel_rfl, ?_⟩
 refine at_ret <| ?_
 replace hy := sj hy
 subst hy
 exact out1 r (.inl r) (look_of r) r (pu_B _)
def p_seek_Out_1 (K : Nat) (a0 : Ed) (a1 : Seek_tree_) : Option Bool :=
 ((p_seek_tree_leads K a1 a0).bind fun r1 => some (!r1))
theorem w_seek_Out_1 {K : Nat} {a0 : Ed} {a1 : Seek_tree_} {y : Bool} (hy : p_seek_Out_1 K a0 a1 = some y) : Does PP GV 34 [] [(EdA a0), ((FP (FP Seek_tree_A)) a1)] [] [] (B y) := by
 unfold p_seek_Out_1 at hy
 refine does_of at34 r (le_ok r) <| ?_
 rintro ⟨_, base, w0, F⟩ rfl
 refine reg 2 r <| bx 1 r r r r <| asg r r r <| dn <| reg 5 r <| fld tk56 r r r r <| ldw tk47 r r r r r r <| ?_
 obtain ⟨r1, qr1, hy⟩ := bndI hy
 refine clp (w_seek_tree_leads qr1) ca32 r r (.cons ((pu_fp pu_Seek_tree_) _) (.cons (pu_Ed _) (.nil))) (.one (pu_B _)) r <| nt r r r <| asg r r r <| dn <| at_ret <| ?_
 replace hy := sj hy
 subst hy
 exact out1 r (.inl r) (look_of r) r (pu_B _)
def p_ring_places_L1 (K : Nat) (a1 : (List Int)) (a0 : (List Int)) : Nat → Int → (List Int) → Option (List Int)
 | 0, _, _ => none
 | n+1, v14_1, l1006_1 => (bif (decide (v14_1 < (a1.length : Int))) then (ixP a1 v14_1 fun v3 => ((p_slices_Index_Sint_int K a0 v3).bind fun r4 => (apP 8 l1006_1.length [r4].length (p_ring_places_L1 K a1 a0 n (w64 (v14_1 + 1)) (l1006_1 ++ [r4]))))) else some l1006_1)
def p_ring_places (K : Nat) (a0 : (List Int)) (a1 : (List Int)) : Option ((List Int) × Bool) :=
 ((p_ring_Right K a0).bind fun r1 => (bif (!r1) then some ([], false) else ((p_ring_places_L1 K a1 a0 K 0 [] : Option (List Int)).bind fun l1006_2 => ((p_slices_Contains_Sint_int K l1006_2 (-1)).bind fun r6 => some (l1006_2, (!r6))))))
theorem w_ring_places {K : Nat} {a0 : (List Int)} {a1 : (List Int)} {y : ((List Int) × Bool)} (hy : p_ring_places K a0 a1 = some y) : Does PP GV 141 [] [((SL 1 I) a0), ((SL 1 I) a1)] [] [] (.tup [((SL 1 I) y.1), (B y.2)]) := by
 unfold p_ring_places at hy
 refine does_of at141 r (le_ok r) <| ?_
 rintro ⟨_, base, w0, F⟩ rfl
 refine reg 2 r <| asg r r r <| asg r r r <| dn <| at_seq <| reg 3 r <| mv r r r <| ?_
 obtain ⟨r1, qr1, hy⟩ := bndI hy
 refine clp (w_ring_Right qr1) ca39 r r (.cons ((pu_l 1 pu_I) _) (.nil)) (.one (pu_B _)) r <| nt r r r <| dn <| cd r (fun h1 => ?_) (fun h1 => ?_)
 ·replace hy := ifT hy h1
  refine reg 2 r <| asg r r r <| asg r r r <| dn <| at_ret <| atnilP (I) 4 1 r <| ?_
  replace hy := sj hy
  subst hy
  exact outs (rs := [4, 5]) (res2 r) (by simp) (.inl r) (looks_of r) r (.cons ((pu_l 1 pu_I) _) (.cons (pu_B _) (.nil)))
 ·replace hy := ifF hy h1
  refine at_skip <| reg 1 r <| asg r r r <| dn <| ?_
  obtain ⟨o1, hy, k1, hk1, hc1⟩ := bndK hy
  refine meetI (fun (p : (List Int) × Nat) => match p with | (l1006_2, g1006_1) => mk [(6, .own 1006 g1006_1 1 0 (l1006_2).length false)] [(1006, some (g1006_1, .buf 1 (l1006_2.map I)))]) (fun p => match p with | (l1006_2, g1006_1) => k1 l1006_2 = some y) ?_ ?_
  ·skip
   refine reg 3 r <| mv r r r <| lnf (f := I) slB29 r r r <| mv r r r <| dn <| at_block <| niloP (I) 6 1006 1 r <| wk (T' := [(0, ((SL 1 I) a0)), (6, .own 1006 _ 1 0 ([]).length false), (12, ((SL 1 I) a1)), (13, (I (a1.length : Int))), (14, (I 0))]) (H' := [(1006, some (_, .buf 1 ([].map I)))]) (.k r r (.k r r (.k r r (.k r r (.k r r .nil))))) (.k r r .nil) <| loopI (fun (p : Nat × Int × (List Int) × Nat) => match p with | (n2, v14_1, l1006_1, g1006_2) => mk [(0, ((SL 1 I) a0)), (6, .own 1006 g1006_2 1 0 (l1006_1).length false), (12, ((SL 1 I) a1)), (13, (I (a1.length : Int))), (14, (I v14_1))] [(1006, some (g1006_2, .buf 1 (l1006_1.map I)))]) (fun p => match p with | (n2, v14_1, l1006_1, g1006_2) => p_ring_places_L1 K a1 a0 n2 v14_1 l1006_1 = some o1) (fun p => p.1) ?_ (K, 0, [], _) hy _
   rintro ⟨n2, v14_1, l1006_1, g1006_2⟩ cl hy
   cases n2 with | zero => cases hy | succ n2 => ?_
   change At _ cl (mk _ _) _
   replace hy : p_ring_places_L1 K a1 a0 (n2+1) v14_1 l1006_1 = some o1 := hy
   rw [p_ring_places_L1] at hy
   refine reg 1 r <| bn r r r r r <| dn <| at_seq <| cd r (fun h4 => ?_) (fun h4 => ?_)
   ·replace hy := ifT hy h4
    refine at_skip <| at_seq <| at_block <| reg 3 r <| ?_
    obtain ⟨i2, v3, qi2, xv3, hy⟩ := ixI hy
    refine fixP (f := I) sl29 qi2 xv3 r r r r <| fld tk3 r r r r <| asg r r r <| dn <| reg1 7 r <| mv r r r <| mv r r r <| mv r r r <| ?_
    obtain ⟨r4, qr4, hy⟩ := bndI hy
    refine clp (w_slices_Index_Sint_int qr4) ca116 r r (.cons ((pu_l 1 pu_I) _) (.cons (pu_I _) (.nil))) (.one (pu_I _)) r <| bldsP I ([r4] : List Int) 1 se29 r r r r r r r <| ?_
    obtain ⟨k5a, k5b, hy⟩ := apI hy
    refine apoP (f := I) (l := l1006_1) (zs := [r4]) se29 k5a k5b r r r r r r <| asg r r r <| dn <| at_bn <| reg1 2 r <| bn r r r r r <| mv r r r <| dn <| againI (n2, (w64 (v14_1 + 1)), (l1006_1 ++ [r4]), _) r hy (Nat.lt_succ_self _) (.k r r (.k r r (.k r r (.k r r (.k r r .nil))))) (.k r r .nil)
   ·replace hy := ifF hy h4
    refine at_exit <| at_te <| at_te <| at_inBlock <| ?_
    replace hy := sj hy
    subst hy
    refine metI (l1006_1, _) r hc1 (.k r r .nil) (.k r r .nil)
  ·rintro ⟨l1006_2, g1006_1⟩ cl hy
   subst hk1
   change At _ cl (mk _ _) _
   refine frzP (f := I) (l := l1006_2) 6 1006 r r pu_I <| reg 6 r <| mv r r r <| mv r r r <| ?_
   obtain ⟨r6, qr6, hy⟩ := bndI hy
   refine clp (w_slices_Contains_Sint_int qr6) ca96 r r (.cons ((pu_l 1 pu_I) _) (.cons (pu_I _) (.nil))) (.one (pu_B _)) r <| nt r r r <| asg r r r <| asg r r r <| dn <| at_ret <| ?_
   replace hy := sj hy
   subst hy
   exact outs (rs := [4, 5]) (res2 r) (by simp) (.inl r) (looks_of r) r (.cons ((pu_l 1 pu_I) _) (.cons (pu_B _) (.nil)))
def p_slices_Concat_Sint_int_L1 (K : Nat) (a0 : (List (List Int))) : Nat → Int → Int → Option Int
 | 0, _, _ => none
 | n+1, v3_1, v11_1 => (bif (decide (v11_1 < (a0.length : Int))) then (ixP a0 v11_1 fun v2 => (bif (decide ((w64 (v3_1 + (v2.length : Int))) < 0)) then none else p_slices_Concat_Sint_int_L1 K a0 n (w64 (v3_1 + (v2.length : Int))) (w64 (v11_1 + 1)))) else some v3_1)
def p_slices_Concat_Sint_int_L2 (K : Nat) (a0 : (List (List Int))) : Nat → Int → (List Int) → Option (List Int)
 | 0, _, _ => none
 | n+1, v27_3, l1_3 => (bif (decide (v27_3 < (a0.length : Int))) then (ixP a0 v27_3 fun v5 => (apP 8 l1_3.length v5.length (p_slices_Concat_Sint_int_L2 K a0 n (w64 (v27_3 + 1)) (l1_3 ++ v5)))) else some l1_3)
def p_slices_Concat_Sint_int (K : Nat) (a0 : (List (List Int))) : Option (List Int) :=
 ((p_slices_Concat_Sint_int_L1 K a0 K 0 0 : Option Int).bind fun v3_2 => (mkP 8 v3_2 fun i3 => ((p_slices_Concat_Sint_int_L2 K a0 K 0 ([] : List Int) : Option (List Int)).bind fun l1_4 => some l1_4)))
theorem w_slices_Concat_Sint_int {K : Nat} {a0 : (List (List Int))} {y : (List Int)} (hy : p_slices_Concat_Sint_int K a0 = some y) : Does PP GV 134 [] [((SL 1 (SL 1 I)) a0)] [] [] ((SL 1 I) y) := by
 unfold p_slices_Concat_Sint_int at hy
 refine does_of at134 r (le_ok r) <| ?_
 rintro ⟨_, base, w0, F⟩ rfl
 refine reg 1 r <| asg r r r <| dn <| reg 1 r <| asg r r r <| dn <| ?_
 obtain ⟨o1, hy, k1, hk1, hc1⟩ := bndK hy
 refine meetI (fun (p : Int) => match p with | v3_2 => mk [(0, ((SL 1 (SL 1 I)) a0)), (3, (I v3_2))] []) (fun p => match p with | v3_2 => k1 v3_2 = some y) ?_ ?_
 ·skip
  refine reg 3 r <| mv r r r <| lnf (f := (SL 1 I)) slB30 r r r <| mv r r r <| dn <| at_block <| wk (T' := [(0, ((SL 1 (SL 1 I)) a0)), (3, (I 0)), (9, ((SL 1 (SL 1 I)) a0)), (10, (I (a0.length : Int))), (11, (I 0))]) (H' := []) (.k r r (.k r r (.k r r (.k r r (.k r r .nil))))) .nil <| loopI (fun (p : Nat × Int × Int) => match p with | (n2, v3_1, v11_1) => mk [(0, ((SL 1 (SL 1 I)) a0)), (3, (I v3_1)), (9, ((SL 1 (SL 1 I)) a0)), (10, (I (a0.length : Int))), (11, (I v11_1))] []) (fun p => match p with | (n2, v3_1, v11_1) => p_slices_Concat_Sint_int_L1 K a0 n2 v3_1 v11_1 = some o1) (fun p => p.1) ?_ (K, 0, 0) hy _
  rintro ⟨n2, v3_1, v11_1⟩ cl hy
  cases n2 with | zero => cases hy | succ n2 => ?_
  change At _ cl (mk _ _) _
  replace hy : p_slices_Concat_Sint_int_L1 K a0 (n2+1) v3_1 v11_1 = some o1 := hy
  rw [p_slices_Concat_Sint_int_L1] at hy
  refine reg 1 r <| bn r r r r r <| dn <| at_seq <| cd r (fun h3 => ?_) (fun h3 => ?_)
  ·replace hy := ifT hy h3
   refine at_skip <| at_seq <| at_block <| reg 3 r <| ?_
   obtain ⟨i1, v2, qi1, xv2, hy⟩ := ixI hy
   refine fixP (f := (SL 1 I)) sl30 qi1 xv2 r r r r <| fld tk29 r r r r <| asg r r r <| dn <| reg 5 r <| mv r r r <| mv r r r <| lnf (f := I) slB29 r r r <| bn r r r r r <| asg r r r <| dn <| reg 2 r <| mv r r r <| bn r r r r r <| dn <| cd r (fun h4 => ?_) (fun h4 => ?_)
   ·replace hy := ifT hy h4
    refine reg1 2 r <| ?_
    cases hy
   ·replace hy := ifF hy h4
    refine at_skip <| at_bn <| reg1 2 r <| bn r r r r r <| mv r r r <| dn <| againI (n2, (w64 (v3_1 + (v2.length : Int))), (w64 (v11_1 + 1))) r hy (Nat.lt_succ_self _) (.k r r (.k r r (.k r r (.k r r (.k r r .nil))))) .nil
  ·replace hy := ifF hy h3
   refine at_exit <| at_te <| at_te <| at_inBlock <| ?_
   replace hy := sj hy
   subst hy
   refine metI v3_1 r hc1 (.k r r (.k r r .nil)) .nil
 ·rintro v3_2 cl hy
  subst hk1
  change At _ cl (mk _ _) _
  refine reg 3 r <| mv r r r <| ?_
  obtain ⟨i3, qi3, bi3, hy⟩ := mkI hy
  refine clN (g1 := I) (l' := []) 1 (w_slices_Grow_nil qi3 bi3) ca143 r r pu_I (.cons (.v _) (.cons (.v _) .nil)) r <| asg r r r <| dn <| ?_
  obtain ⟨o3, hy, k3, hk3, hc3⟩ := bndK hy
  refine meetI (fun (p : (List Int) × Nat) => match p with | (l1_4, g1_3) => mk [(6, .own 1 g1_3 1 0 (l1_4).length false)] [(1, some (g1_3, .buf 1 (l1_4.map I)))]) (fun p => match p with | (l1_4, g1_3) => k3 l1_4 = some y) ?_ ?_
  ·skip
   refine reg 3 r <| mv r r r <| lnf (f := (SL 1 I)) slB30 r r r <| mv r r r <| dn <| at_block <| wk (T' := [(6, .own 1 _ 1 0 (([] : List Int)).length false), (25, ((SL 1 (SL 1 I)) a0)), (26, (I (a0.length : Int))), (27, (I 0))]) (H' := [(1, some (_, .buf 1 (([] : List Int).map I)))]) (.k r r (.k r r (.k r r (.k r r .nil)))) (.k r r .nil) <| loopI (fun (p : Nat × Int × (List Int) × Nat) => match p with | (n4, v27_3, l1_3, g1_4) => mk [(6, .own 1 g1_4 1 0 (l1_3).length false), (25, ((SL 1 (SL 1 I)) a0)), (26, (I (a0.length : Int))), (27, (I v27_3))] [(1, some (g1_4, .buf 1 (l1_3.map I)))]) (fun p => match p with | (n4, v27_3, l1_3, g1_4) => p_slices_Concat_Sint_int_L2 K a0 n4 v27_3 l1_3 = some o3) (fun p => p.1) ?_ (K, 0, ([] : List Int), _) hy _
   rintro ⟨n4, v27_3, l1_3, g1_4⟩ cl hy
   cases n4 with | zero => cases hy | succ n4 => ?_
   change At _ cl (mk _ _) _
   replace hy : p_slices_Concat_Sint_int_L2 K a0 (n4+1) v27_3 l1_3 = some o3 := hy
   rw [p_slices_Concat_Sint_int_L2] at hy
   refine reg 1 r <| bn r r r r r <| dn <| at_seq <| cd r (fun h4 => ?_) (fun h4 => ?_)
   ·replace hy := ifT hy h4
    refine at_skip <| at_seq <| at_block <| reg 3 r <| ?_
    obtain ⟨i4, v5, qi4, xv5, hy⟩ := ixI hy
    refine fixP (f := (SL 1 I)) sl30 qi4 xv5 r r r r <| fld tk29 r r r r <| asg r r r <| dn <| reg1 4 r <| mv r r r <| mv r r r <| ?_
    obtain ⟨k6a, k6b, hy⟩ := apI hy
    refine aplP (f := I) (l := l1_3) (zs := v5) se29 k6a k6b r r r r r <| asg r r r <| dn <| at_bn <| reg1 2 r <| bn r r r r r <| mv r r r <| dn <| againI (n4, (w64 (v27_3 + 1)), (l1_3 ++ v5), _) r hy (Nat.lt_succ_self _) (.k r r (.k r r (.k r r (.k r r .nil)))) (.k r r .nil)
   ·replace hy := ifF hy h4
    refine at_exit <| at_te <| at_te <| at_inBlock <| ?_
    replace hy := sj hy
    subst hy
    refine metI (l1_3, _) r hc3 (.k r r .nil) (.k r r .nil)
  ·rintro ⟨l1_4, g1_3⟩ cl hy
   subst hk3
   change At _ cl (mk _ _) _
   refine reg 2 r <| mv r r r <| asg r r r <| dn <| at_ret <| frzP (f := I) (l := l1_4) 2 1 r r pu_I <| ?_
   replace hy := sj hy
   subst hy
   exact out1 r (.inl r) (look_of r) r ((pu_l 1 pu_I) _)
def p_ring_turned (K : Nat) (a0 : (List Int)) (a1 : Int) : Option (List Int) :=
 (slP a0 a1 a0.length fun v3 => (slP a0 0 a1 fun v6 => ((p_slices_Concat_Sint_int K [v3, v6]).bind fun r7 => some r7)))
theorem w_ring_turned {K : Nat} {a0 : (List Int)} {a1 : Int} {y : (List Int)} (hy : p_ring_turned K a0 a1 = some y) : Does PP GV 142 [] [((SL 1 I) a0), (I a1)] [] [] ((SL 1 I) y) := by
 unfold p_ring_turned at hy
 refine does_of at142 r (le_ok r) <| ?_
 rintro ⟨_, base, w0, F⟩ rfl
 refine reg 1 r <| asg r r r <| dn <| regd mixed 9 r <| mv r r r <| mv r r r <| ?_
 obtain ⟨i1, i2, qi1, qi2, bi1, ci1, hy⟩ := slI hy
 refine fsllP (f := I) sl29 qi1 qi2 bi1 r r r r <| ?_
 generalize ((List.take i2 a0).drop i1) = v3 at hy ⊢
 refine mv r r r <| mv r r r <| ?_
 obtain ⟨i4, i5, qi4, qi5, bi4, ci4, hy⟩ := slI hy
 refine fslhP (f := I) sl29 qi4 qi5 ci4 r r r r <| ?_
 generalize ((List.take i5 a0).drop i4) = v6 at hy ⊢
 refine bldsF (SL 1 I) ([v3, v6] : List (List Int)) 1 (pu_l 1 pu_I) se30 r r r r r r r <| ?_
 obtain ⟨r7, qr7, hy⟩ := bndI hy
 refine clp (w_slices_Concat_Sint_int qr7) ca134 r r (.cons ((pu_l 1 (pu_l 1 pu_I)) _) (.nil)) (.one ((pu_l 1 pu_I) _)) r <| asg r r r <| dn ⟨by kernel_rfl, ?_⟩
 refine at_ret <| ?_
 replace hy := sj hy
 subst hy
 exact out1 r (.inl r) (look_of r) r ((pu_l 1 pu_I) _)
def p_ring_From (K : Nat) (a0 : (List Int)) (a1 : Int) : Option ((List Int) × Bool) :=
 ((p_ring_places K a0 [a1]).bind fun r1 => (bif (!r1.2) then some ([], false) else (ixP r1.1 0 fun v3 => ((p_ring_turned K a0 v3).bind fun r4 => some (r4, true)))))
theorem w_ring_From {K : Nat} {a0 : (List Int)} {a1 : Int} {y : ((List Int) × Bool)} (hy : p_ring_From K a0 a1 = some y) : Does PP GV 133 [] [((SL 1 I) a0), (I a1)] [] [] (.tup [((SL 1 I) y.1), (B y.2)]) := by
 unfold p_ring_From at hy
 refine does_of at133 r (le_ok r) <| ?_
 rintro ⟨_, base, w0, F⟩ rfl
 refine reg 2 r <| asg r r r <| asg r r r <| dn <| reg 9 r <| mv r r r <| mv r r r <| bldsF I ([a1] : List Int) 1 pu_I se29 r r r r r r r <| ?_
 obtain ⟨r1, qr1, hy⟩ := bndI hy
 refine clp (w_ring_places qr1) ca141 r r (.cons ((pu_l 1 pu_I) _) (.cons ((pu_l 1 pu_I) _) (.nil))) (.tup (.cons ((pu_l 1 pu_I) _) (.cons (pu_B _) (.nil)))) r <| mv r r r <| ext r r r r <| ext r r r r <| asg r r r <| asg r r r <| dn <| at_seq <| reg 2 r <| mv r r r <| nt r r r <| dn <| cd r (fun h1 => ?_) (fun h1 => ?_)
 ·replace hy := ifT hy h1
  refine reg 2 r <| asg r r r <| asg r r r <| dn <| at_ret <| atnilP (I) 4 1 r <| ?_
  replace hy := sj hy
  subst hy
  exact outs (rs := [4, 5]) (res2 r) (by simp) (.inl r) (looks_of r) r (.cons ((pu_l 1 pu_I) _) (.cons (pu_B _) (.nil)))
 ·replace hy := ifF hy h1
  refine at_skip <| reg 7 r <| mv r r r <| mv r r r <| ?_
  obtain ⟨i2, v3, qi2, xv3, hy⟩ := ixI hy
  refine fixP (f := I) sl29 qi2 xv3 r r r r <| fld tk3 r r r r <| ?_
  obtain ⟨r4, qr4, hy⟩ := bndI hy
  refine clp (w_ring_turned qr4) ca142 r r (.cons ((pu_l 1 pu_I) _) (.cons (pu_I _) (.nil))) (.one ((pu_l 1 pu_I) _)) r <| asg r r r <| asg r r r <| dn <| at_ret <| ?_
  replace hy := sj hy
  subst hy
  exact outs (rs := [4, 5]) (res2 r) (by simp) (.inl r) (looks_of r) r (.cons ((pu_l 1 pu_I) _) (.cons (pu_B _) (.nil)))
def p_ring_Plain (K : Nat) (a0 : (List Int)) : Option (List Int) :=
 ((p_ring_Right K a0).bind fun r1 => (bif (!r1) then some [] else (bif ((a0.length : Int) == 0) then some [] else ((p_slices_Min_Sint_int K a0).bind fun r2 => ((p_slices_Index_Sint_int K a0 r2).bind fun r3 => ((p_ring_turned K a0 r3).bind fun r4 => some r4))))))
theorem w_ring_Plain {K : Nat} {a0 : (List Int)} {y : (List Int)} (hy : p_ring_Plain K a0 = some y) : Does PP GV 144 [] [((SL 1 I) a0)] [] [] ((SL 1 I) y) := by
 unfold p_ring_Plain at hy
 refine does_of at144 r (le_ok r) <| ?_
 rintro ⟨_, base, w0, F⟩ rfl
 refine reg 1 r <| asg r r r <| dn <| at_seq <| reg 8 r <| mv r r r <| ?_
 obtain ⟨r1, qr1, hy⟩ := bndI hy
 refine clp (w_ring_Right qr1) ca39 r r (.cons ((pu_l 1 pu_I) _) (.nil)) (.one (pu_B _)) r <| nt r r r <| mv r r r <| cas 6 r (fun h1 => ?_) (fun h1 => ?_)
 ·replace hy := ifT hy h1
  refine sk r r <| sk r r <| sk r r <| pkt r r r r r <| dn <| cdt r <| reg 1 r <| asg r r r <| dn <| at_ret <| atnilP (I) 2 1 r <| ?_
  replace hy := sj hy
  subst hy
  exact out1 r (.inl r) (look_of r) r ((pu_l 1 pu_I) _)
 ·replace hy := ifF hy h1
  refine mv r r r <| lnf (f := I) slB29 r r r <| bn r r r r r <| pkf r r r r r <| dn <| cd r (fun h2 => ?_) (fun h2 => ?_)
  ·replace hy := ifT hy h2
   refine reg 1 r <| asg r r r <| dn <| at_ret <| atnilP (I) 2 1 r <| ?_
   replace hy := sj hy
   subst hy
   exact out1 r (.inl r) (look_of r) r ((pu_l 1 pu_I) _)
  ·replace hy := ifF hy h2
   refine at_skip <| reg 7 r <| mv r r r <| mv r r r <| mv r r r <| ?_
   obtain ⟨r2, qr2, hy⟩ := bndI hy
   refine clp (w_slices_Min_Sint_int qr2) ca92 r r (.cons ((pu_l 1 pu_I) _) (.nil)) (.one (pu_I _)) r <| ?_
   obtain ⟨r3, qr3, hy⟩ := bndI hy
   refine clp (w_slices_Index_Sint_int qr3) ca116 r r (.cons ((pu_l 1 pu_I) _) (.cons (pu_I _) (.nil))) (.one (pu_I _)) r <| ?_
   obtain ⟨r4, qr4, hy⟩ := bndI hy
   refine clp (w_ring_turned qr4) ca142 r r (.cons ((pu_l 1 pu_I) _) (.cons (pu_I _) (.nil))) (.one ((pu_l 1 pu_I) _)) r <| asg r r r <| dn <| at_ret <| ?_
   replace hy := sj hy
   subst hy
   exact out1 r (.inl r) (look_of r) r ((pu_l 1 pu_I) _)
def p_tour_with_L1 (K : Nat) (a0 : Fo) (a1 : (List Int)) : Nat → Int → (List (List Int)) → Option (List (List Int))
 | 0, _, _ => none
 | n+1, v15_1, l1007_1 => (bif (decide (v15_1 < (a0.rings.length : Int))) then (ixP a0.rings v15_1 fun v2 => ((p_slices_Contains_Sint_int K a1 v15_1).bind fun r3 => (bif (!r3) then (apP 24 l1007_1.length [v2].length (p_tour_with_L1 K a0 a1 n (w64 (v15_1 + 1)) (l1007_1 ++ [v2]))) else p_tour_with_L1 K a0 a1 n (w64 (v15_1 + 1)) l1007_1))) else some l1007_1)
def p_tour_with_L2 (K : Nat) (a2 : (List (List Int))) : Nat → Int → (List (List Int)) → Option (List (List Int))
 | 0, _, _ => none
 | n+1, v31_3, l1007_3 => (bif (decide (v31_3 < (a2.length : Int))) then (ixP a2 v31_3 fun v6 => ((p_ring_Plain K v6).bind fun r7 => (apP 24 l1007_3.length [r7].length (p_tour_with_L2 K a2 n (w64 (v31_3 + 1)) (l1007_3 ++ [r7]))))) else some l1007_3)
def p_tour_with (K : Nat) (a0 : Fo) (a1 : (List Int)) (a2 : (List (List Int))) : Option Fo :=
 ((p_tour_with_L1 K a0 a1 K 0 [] : Option (List (List Int))).bind fun l1007_2 => ((p_tour_with_L2 K a2 K 0 l1007_2 : Option (List (List Int))).bind fun l1007_4 => ((p_slices_SortFunc_SSint_Sint K l1007_4 (fun (x0 : (List Int)) (x1 : (List Int)) => p_tour_with_1 K x0 x1)).bind fun r9 => lenP l1007_4 r9 (some (Fo.mk a0.n r9)))))
theorem w_tour_with {K : Nat} {a0 : Fo} {a1 : (List Int)} {a2 : (List (List Int))} {y : Fo} (hy : p_tour_with K a0 a1 a2 = some y) : Does PP GV 136 [] [(FoA a0), ((SL 1 I) a1), ((SL 1 (SL 1 I)) a2)] [] [] (FoA y) := by
 unfold p_tour_with at hy
 refine does_of at136 r (le_ok r) <| ?_
 rintro ⟨_, base, w0, F⟩ rfl
 refine reg 2 r <| bx 1 r r r r <| rg_alloc (s := 2) (gd_of r) zc81 (elems_one (by rfl)) (lt_ok r) <| dn <| reg 1 r <| asg r r r <| dn <| ?_
 obtain ⟨o1, hy, k1, hk1, hc1⟩ := bndK hy
 refine meetI (fun (p : (List (List Int)) × Nat × Nat × Nat) => match p with | (l1007_2, g1_1, g2_1, g1007_1) => mk [(2, ((SL 1 (SL 1 I)) a2)), (3, .ptr 1 g1_1 0 0), (6, .ptr 2 g2_1 0 0), (7, .own 1007 g1007_1 1 0 (l1007_2).length false)] [(1, some (g1_1, .buf 2 [.agg [(I a0.n), ((SL 1 (SL 1 I)) a0.rings)]])), (2, some (g2_1, .buf 2 [.agg [(I 0), .v (.slice none 0 0)]])), (1007, some (g1007_1, .buf 1 (l1007_2.map (SL 1 I))))]) (fun p => match p with | (l1007_2, g1_1, g2_1, g1007_1) => k1 l1007_2 = some y) ?_ ?_
 ·skip
  refine reg 4 r <| fa fo81_1 r r r <| ld tk30 r r r r r r <| lnf (f := (SL 1 I)) slB30 r r r <| mv r r r <| dn <| at_block <| niloP ((SL 1 I)) 7 1007 1 r <| wk (T' := [(1, ((SL 1 I) a1)), (2, ((SL 1 (SL 1 I)) a2)), (3, .ptr 1 _ 0 0), (6, .ptr 2 _ 0 0), (7, .own 1007 _ 1 0 ([]).length false), (13, ((SL 1 (SL 1 I)) a0.rings)), (14, (I (a0.rings.length : Int))), (15, (I 0))]) (H' := [(1, some (_, .buf 2 [.agg [(I a0.n), ((SL 1 (SL 1 I)) a0.rings)]])), (2, some (_, .buf 2 [.agg [(I 0), .v (.slice none 0 0)]])), (1007, some (_, .buf 1 ([].map (SL 1 I))))]) (.k r r (.k r r (.k r r (.k r r (.k r r (.k r r (.k r r (.k r r .nil)))))))) (.k r r (.k r r (.k r r .nil))) <| loopI (fun (p : Nat × Int × (List (List Int)) × Nat × Nat × Nat) => match p with | (n2, v15_1, l1007_1, g1_2, g2_2, g1007_2) => mk [(1, ((SL 1 I) a1)), (2, ((SL 1 (SL 1 I)) a2)), (3, .ptr 1 g1_2 0 0), (6, .ptr 2 g2_2 0 0), (7, .own 1007 g1007_2 1 0 (l1007_1).length false), (13, ((SL 1 (SL 1 I)) a0.rings)), (14, (I (a0.rings.length : Int))), (15, (I v15_1))] [(1, some (g1_2, .buf 2 [.agg [(I a0.n), ((SL 1 (SL 1 I)) a0.rings)]])), (2, some (g2_2, .buf 2 [.agg [(I 0), .v (.slice none 0 0)]])), (1007, some (g1007_2, .buf 1 (l1007_1.map (SL 1 I))))]) (fun p => match p with | (n2, v15_1, l1007_1, g1_2, g2_2, g1007_2) => p_tour_with_L1 K a0 a1 n2 v15_1 l1007_1 = some o1) (fun p => p.1) ?_ (K, 0, [], _, _, _) hy _
  rintro ⟨n2, v15_1, l1007_1, g1_2, g2_2, g1007_2⟩ cl hy
  cases n2 with | zero => cases hy | succ n2 => ?_
  change At _ cl (mk _ _) _
  replace hy : p_tour_with_L1 K a0 a1 (n2+1) v15_1 l1007_1 = some o1 := hy
  rw [p_tour_with_L1] at hy
  refine reg 1 r <| bn r r r r r <| dn <| at_seq <| cd r (fun h3 => ?_) (fun h3 => ?_)
  ·replace hy := ifT hy h3
   refine at_skip <| at_seq <| at_block <| reg 5 r <| mv r r r <| ?_
   obtain ⟨i1, v2, qi1, xv2, hy⟩ := ixI hy
   refine fixP (f := (SL 1 I)) sl30 qi1 xv2 r r r r <| fld tk29 r r r r <| asg r r r <| asg r r r <| dn <| reg 4 r <| mv r r r <| mv r r r <| ?_
   obtain ⟨r3, qr3, hy⟩ := bndI hy
   refine clp (w_slices_Contains_Sint_int qr3) ca96 r r (.cons ((pu_l 1 pu_I) _) (.cons (pu_I _) (.nil))) (.one (pu_B _)) r <| nt r r r <| dn <| cd r (fun h4 => ?_) (fun h4 => ?_)
   ·replace hy := ifT hy h4
    refine reg1 5 r <| mv r r r <| mv r r r <| bldsP (SL 1 I) ([v2] : List (List Int)) 3 se30 r r r r r r r <| ?_
    obtain ⟨k4a, k4b, hy⟩ := apI hy
    refine apoP (f := (SL 1 I)) (l := l1007_1) (zs := [v2]) se30 k4a k4b r r r r r r <| asg r r r <| dn <| at_bn <| reg1 2 r <| bn r r r r r <| mv r r r <| dn <| againI (n2, (w64 (v15_1 + 1)), (l1007_1 ++ [v2]), _, _, _) r hy (Nat.lt_succ_self _) (.k r r (.k r r (.k r r (.k r r (.k r r (.k r r (.k r r (.k r r .nil)))))))) (.k r r (.k r r (.k r r .nil)))
   ·replace hy := ifF hy h4
    refine at_skip <| at_bn <| reg1 2 r <| bn r r r r r <| mv r r r <| dn <| againI (n2, (w64 (v15_1 + 1)), l1007_1, _, _, _) r hy (Nat.lt_succ_self _) (.k r r (.k r r (.k r r (.k r r (.k r r (.k r r (.k r r (.k r r .nil)))))))) (.k r r (.k r r (.k r r .nil)))
  ·replace hy := ifF hy h3
   refine at_exit <| at_te <| at_te <| at_inBlock <| ?_
   replace hy := sj hy
   subst hy
   refine metI (l1007_1, _, _, _) r hc1 (.k r r (.k r r (.k r r (.k r r .nil)))) (.k r r (.k r r (.k r r .nil)))
 ·rintro ⟨l1007_2, g1_1, g2_1, g1007_1⟩ cl hy
  subst hk1
  change At _ cl (mk _ _) _
  obtain ⟨o3, hy, k3, hk3, hc3⟩ := bndK hy
  refine meetI (fun (p : (List (List Int)) × Nat × Nat × Nat) => match p with | (l1007_4, g1_3, g2_3, g1007_3) => mk [(3, .ptr 1 g1_3 0 0), (6, .ptr 2 g2_3 0 0), (7, .own 1007 g1007_3 1 0 (l1007_4).length false)] [(1, some (g1_3, .buf 2 [.agg [(I a0.n), ((SL 1 (SL 1 I)) a0.rings)]])), (2, some (g2_3, .buf 2 [.agg [(I 0), .v (.slice none 0 0)]])), (1007, some (g1007_3, .buf 1 (l1007_4.map (SL 1 I))))]) (fun p => match p with | (l1007_4, g1_3, g2_3, g1007_3) => k3 l1007_4 = some y) ?_ ?_
  ·skip
   refine reg 3 r <| mv r r r <| lnf (f := (SL 1 I)) slB30 r r r <| mv r r r <| dn <| at_block <| wk (T' := [(3, .ptr 1 _ 0 0), (6, .ptr 2 _ 0 0), (7, .own 1007 _ 1 0 (l1007_2).length false), (29, ((SL 1 (SL 1 I)) a2)), (30, (I (a2.length : Int))), (31, (I 0))]) (H' := [(1, some (_, .buf 2 [.agg [(I a0.n), ((SL 1 (SL 1 I)) a0.rings)]])), (2, some (_, .buf 2 [.agg [(I 0), .v (.slice none 0 0)]])), (1007, some (_, .buf 1 (l1007_2.map (SL 1 I))))]) (.k r r (.k r r (.k r r (.k r r (.k r r (.k r r .nil)))))) (.k r r (.k r r (.k r r .nil))) <| loopI (fun (p : Nat × Int × (List (List Int)) × Nat × Nat × Nat) => match p with | (n4, v31_3, l1007_3, g1_4, g2_4, g1007_4) => mk [(3, .ptr 1 g1_4 0 0), (6, .ptr 2 g2_4 0 0), (7, .own 1007 g1007_4 1 0 (l1007_3).length false), (29, ((SL 1 (SL 1 I)) a2)), (30, (I (a2.length : Int))), (31, (I v31_3))] [(1, some (g1_4, .buf 2 [.agg [(I a0.n), ((SL 1 (SL 1 I)) a0.rings)]])), (2, some (g2_4, .buf 2 [.agg [(I 0), .v (.slice none 0 0)]])), (1007, some (g1007_4, .buf 1 (l1007_3.map (SL 1 I))))]) (fun p => match p with | (n4, v31_3, l1007_3, g1_4, g2_4, g1007_4) => p_tour_with_L2 K a2 n4 v31_3 l1007_3 = some o3) (fun p => p.1) ?_ (K, 0, l1007_2, _, _, _) hy _
   rintro ⟨n4, v31_3, l1007_3, g1_4, g2_4, g1007_4⟩ cl hy
   cases n4 with | zero => cases hy | succ n4 => ?_
   change At _ cl (mk _ _) _
   replace hy : p_tour_with_L2 K a2 (n4+1) v31_3 l1007_3 = some o3 := hy
   rw [p_tour_with_L2] at hy
   refine reg 1 r <| bn r r r r r <| dn <| at_seq <| cd r (fun h4 => ?_) (fun h4 => ?_)
   ·replace hy := ifT hy h4
    refine at_skip <| at_seq <| at_block <| reg 3 r <| ?_
    obtain ⟨i5, v6, qi5, xv6, hy⟩ := ixI hy
    refine fixP (f := (SL 1 I)) sl30 qi5 xv6 r r r r <| fld tk29 r r r r <| asg r r r <| dn <| reg1 6 r <| mv r r r <| mv r r r <| ?_
    obtain ⟨r7, qr7, hy⟩ := bndI hy
    refine clp (w_ring_Plain qr7) ca144 r r (.cons ((pu_l 1 pu_I) _) (.nil)) (.one ((pu_l 1 pu_I) _)) r <| bldsP (SL 1 I) ([r7] : List (List Int)) 4 se30 r r r r r r r <| ?_
    obtain ⟨k8a, k8b, hy⟩ := apI hy
    refine apoP (f := (SL 1 I)) (l := l1007_3) (zs := [r7]) se30 k8a k8b r r r r r r <| asg r r r <| dn <| at_bn <| reg1 2 r <| bn r r r r r <| mv r r r <| dn <| againI (n4, (w64 (v31_3 + 1)), (l1007_3 ++ [r7]), _, _, _) r hy (Nat.lt_succ_self _) (.k r r (.k r r (.k r r (.k r r (.k r r (.k r r .nil)))))) (.k r r (.k r r (.k r r .nil)))
   ·replace hy := ifF hy h4
    refine at_exit <| at_te <| at_te <| at_inBlock <| ?_
    replace hy := sj hy
    subst hy
    refine metI (l1007_3, _, _, _) r hc3 (.k r r (.k r r (.k r r .nil))) (.k r r (.k r r (.k r r .nil)))
  ·rintro ⟨l1007_4, g1_3, g2_3, g1007_3⟩ cl hy
   subst hk3
   change At _ cl (mk _ _) _
   refine reg 2 r <| mv r r r <| ?_
   obtain ⟨r9, qr9, hy⟩ := bndI hy
   obtain ⟨tr9, hy⟩ := lenI hy
   refine clo1 (s := 1007) (w_slices_SortFunc_SSint_Sint (a1h := fun h => w_tour_with_1 h) (a1k := ca146) (a1l := ⟨r, r⟩) (a1p := .nil) (a1q := .nil) qr9) ca145 r (.tup .nil) r r (pu_l 1 pu_I) ?_ r ?_
   ·exact .cons _ _ _ _ (rnOwn (List.Mem.head _) (by first | rfl | simp)) (.cons _ _ _ _ (.pu _ (pu_fn (.nil) (.nil))) (.nil))
   refine teq 7 (y := .own 1007 _ 1 0 r9.length false) r (by first | rw [tr9] | simp [tr9]) <| teq 41 (y := .own 1007 _ 1 0 r9.length false) r (by first | rw [tr9] | simp [tr9]) <| dn <| reg 5 r <| fa fo81_0 r r r <| ld tk3 r r r r r r <| mv r r r <| bld bd81 r r r r <| str tk81 r r r r r r r <| dn <| at_ret <| cellF (f := (SL 1 I)) (l := r9) 2 1007 1 r r r (pu_l 1 pu_I) r <| ?_
   replace hy := sj hy
   subst hy
   exact endZ1 [] r (.inl r) (.cell _ _ _ _ _ _ _ _ _ _ _ _ _ r r r tk81 r .nil) (by simp) (.pu _ (pu_Fo (Fo.mk a0.n r9)))
def p_tour_Link (K : Nat) (a0 : Fo) (a1 : Int) (a2 : Int) : Option (Fo × Int) :=
 ((p_tour_asked K a0 a1 a2).bind fun r1 => (bif (r1 != 0) then some (a0, r1) else ((p_tour_place K a0 a1).bind fun r2 => ((p_tour_place K a0 a2).bind fun r3 => (bif (r2 == r3) then some (a0, 5) else (ixP a0.rings r2 fun v5 => ((p_ring_From K v5 a1).bind fun r6 => (ixP a0.rings r3 fun v8 => ((p_ring_From K v8 a2).bind fun r9 => (slP r6.1 0 1 fun v12 => ((p_tour_Arc K a0.n a1 a2).bind fun r13 => ((p_tour_Arc K a0.n a2 a1).bind fun r14 => (slP r6.1 1 r6.1.length fun v17 => ((p_slices_Concat_Sint_int K [v12, [r13], r9.1, [r14], v17]).bind fun r18 => ((p_tour_with K a0 [r2, r3] [r18]).bind fun r19 => some (r19, 0))))))))))))))))
theorem w_tour_Link {K : Nat} {a0 : Fo} {a1 : Int} {a2 : Int} {y : (Fo × Int)} (hy : p_tour_Link K a0 a1 a2 = some y) : Does PP GV 113 [] [(FoA a0), (I a1), (I a2)] [] [] (.tup [(FoA y.1), (I y.2)]) := by
 unfold p_tour_Link at hy
 refine does_of at113 r (le_ok r) <| ?_
 rintro ⟨_, base, w0, F⟩ rfl
 refine reg 3 r <| bx 1 r r r r <| rg_alloc (s := 2) (gd_of r) zc81 (elems_one (by rfl)) (lt_ok r) <| asg r r r <| dn <| at_seq <| reg 5 r <| ldw tk81 r r r r r r <| mv r r r <| mv r r r <| ?_
 obtain ⟨r1, qr1, hy⟩ := bndI hy
 refine clp (w_tour_asked qr1) ca132 r r (.cons (pu_Fo _) (.cons (pu_I _) (.cons (pu_I _) (.nil)))) (.one (pu_I _)) r <| asg r r r <| dn <| reg 2 r <| mv r r r <| bn r r r r r <| dn <| cd r (fun h1 => ?_) (fun h1 => ?_)
 ·replace hy := ifT hy h1
  refine reg 4 r <| ldw tk81 r r r r r r <| mv r r r <| str tk81 r r r r r r r <| asg r r r <| dn <| at_ret <| ?_
  replace hy := sj hy
  subst hy
  exact endZ [] (rs := [_, _]) r (by simp) (.inl r) (.cell _ _ _ _ _ _ _ _ _ _ _ _ _ r r r tk81 r (.tmp _ _ _ _ r .nil)) (by simp) (PuL.rn (xs := [(FoA a0), (I r1)]) (.cons (pu_Fo _) (.cons (pu_I _) (.nil))))
 ·replace hy := ifF hy h1
  refine at_skip <| regd mixed 8 r <| ldw tk81 r r r r r r <| mv r r r <| ?_
  obtain ⟨r2, qr2, hy⟩ := bndI hy
  refine clp (w_tour_place qr2) ca65 r r (.cons (pu_Fo _) (.cons (pu_I _) (.nil))) (.one (pu_I _)) r <| ldw tk81 r r r r r r <| mv r r r <| ?_
  obtain ⟨r3, qr3, hy⟩ := bndI hy
  refine clp (w_tour_place qr3) ca65 r r (.cons (pu_Fo _) (.cons (pu_I _) (.nil))) (.one (pu_I _)) r <| asg r r r <| asg r r r <| dn ⟨by kernel_rfl, ?_⟩
  refine at_seq <| reg 3 r <| mv r r r <| mv r r r <| bn r r r r r <| dn <| cd r (fun h2 => ?_) (fun h2 => ?_)
  ·replace hy := ifT hy h2
   refine reg 3 r <| ldw tk81 r r r r r r <| str tk81 r r r r r r r <| asg r r r <| dn <| at_ret <| ?_
   replace hy := sj hy
   subst hy
   exact endZ [] (rs := [_, _]) r (by simp) (.inl r) (.cell _ _ _ _ _ _ _ _ _ _ _ _ _ r r r tk81 r (.tmp _ _ _ _ r .nil)) (by simp) (PuL.rn (xs := [(FoA a0), (I 5)]) (.cons (pu_Fo _) (.cons (pu_I _) (.nil))))
  ·replace hy := ifF hy h2
   refine at_skip <| reg 12 r <| fa fo81_1 r r r <| ld tk30 r r r r r r <| mv r r r <| ?_
   obtain ⟨i4, v5, qi4, xv5, hy⟩ := ixI hy
   refine fixP (f := (SL 1 I)) sl30 qi4 xv5 r r r r <| fld tk29 r r r r <| mv r r r <| ?_
   obtain ⟨r6, qr6, hy⟩ := bndI hy
   refine clp (w_ring_From qr6) ca133 r r (.cons ((pu_l 1 pu_I) _) (.cons (pu_I _) (.nil))) (.tup (.cons ((pu_l 1 pu_I) _) (.cons (pu_B _) (.nil)))) r <| mv r r r <| ext r r r r <| ext r r r r <| asg r r r <| asg r r r <| dn <| reg 12 r <| fa fo81_1 r r r <| ld tk30 r r r r r r <| mv r r r <| ?_
   obtain ⟨i7, v8, qi7, xv8, hy⟩ := ixI hy
   refine fixP (f := (SL 1 I)) sl30 qi7 xv8 r r r r <| fld tk29 r r r r <| mv r r r <| ?_
   obtain ⟨r9, qr9, hy⟩ := bndI hy
   refine clp (w_ring_From qr9) ca133 r r (.cons ((pu_l 1 pu_I) _) (.cons (pu_I _) (.nil))) (.tup (.cons ((pu_l 1 pu_I) _) (.cons (pu_B _) (.nil)))) r <| mv r r r <| ext r r r r <| ext r r r r <| asg r r r <| asg r r r <| dn <| regd mixed 20 r <| mv r r r <| ?_
   obtain ⟨i10, i11, qi10, qi11, bi10, ci10, hy⟩ := slI hy
   refine fslhP (f := I) sl29 qi10 qi11 ci10 r r r r <| ?_
   generalize ((List.take i11 r6.1).drop i10) = v12 at hy ⊢
   refine fa fo81_0 r r r <| ld tk3 r r r r r r <| mv r r r <| mv r r r <| ?_
   obtain ⟨r13, qr13, hy⟩ := bndI hy
   refine clp (w_tour_Arc qr13) ca135 r r (.cons (pu_I _) (.cons (pu_I _) (.cons (pu_I _) (.nil)))) (.one (pu_I _)) r <| bldsF I ([r13] : List Int) 3 pu_I se29 r r r r r r r <| mv r r r <| fa fo81_0 r r r <| ld tk3 r r r r r r <| mv r r r <| mv r r r <| ?_
   obtain ⟨r14, qr14, hy⟩ := bndI hy
   refine clp (w_tour_Arc qr14) ca135 r r (.cons (pu_I _) (.cons (pu_I _) (.cons (pu_I _) (.nil)))) (.one (pu_I _)) r <| bldsF I ([r14] : List Int) 4 pu_I se29 r r r r r r r <| mv r r r <| ?_
   obtain ⟨i15, i16, qi15, qi16, bi15, ci15, hy⟩ := slI hy
   refine fsllP (f := I) sl29 qi15 qi16 bi15 r r r r <| ?_
   generalize ((List.take i16 r6.1).drop i15) = v17 at hy ⊢
   refine bldsF (SL 1 I) ([v12, [r13], r9.1, [r14], v17] : List (List Int)) 5 (pu_l 1 pu_I) se30 r r r r r r r <| ?_
   obtain ⟨r18, qr18, hy⟩ := bndI hy
   refine clp (w_slices_Concat_Sint_int qr18) ca134 r r (.cons ((pu_l 1 (pu_l 1 pu_I)) _) (.nil)) (.one ((pu_l 1 pu_I) _)) r <| asg r r r <| dn ⟨by kernel_rfl, ?_⟩
   refine reg 9 r <| ldw tk81 r r r r r r <| mv r r r <| mv r r r <| bldsF I ([r2, r3] : List Int) 6 pu_I se29 r r r r r r r <| mv r r r <| bldsF (SL 1 I) ([r18] : List (List Int)) 7 (pu_l 1 pu_I) se30 r r r r r r r <| ?_
   obtain ⟨r19, qr19, hy⟩ := bndI hy
   refine clp (w_tour_with qr19) ca136 r r (.cons (pu_Fo _) (.cons ((pu_l 1 pu_I) _) (.cons ((pu_l 1 (pu_l 1 pu_I)) _) (.nil)))) (.one (pu_Fo _)) r <| str tk81 r r r r r r r <| asg r r r <| dn <| at_ret <| ?_
   replace hy := sj hy
   subst hy
   exact endZ [] (rs := [_, _]) r (by simp) (.inl r) (.cell _ _ _ _ _ _ _ _ _ _ _ _ _ r r r tk81 r (.tmp _ _ _ _ r .nil)) (by simp) (PuL.rn (xs := [(FoA r19), (I 0)]) (.cons (pu_Fo _) (.cons (pu_I _) (.nil))))
def p_tour_Of (K : Nat) (a0 : Fo) (a1 : Int) : Option Int :=
 ((p_tour_in K a0.n a1).bind fun r1 => (bif (!r1) then some (-1) else ((p_tour_Right K a0).bind fun r2 => (bif (!r2) then some (-1) else ((p_tour_place K a0 a1).bind fun r3 => some r3)))))
theorem w_tour_Of {K : Nat} {a0 : Fo} {a1 : Int} {y : Int} (hy : p_tour_Of K a0 a1 = some y) : Does PP GV 36 [] [(FoA a0), (I a1)] [] [] (I y) := by
 unfold p_tour_Of at hy
 refine does_of at36 r (le_ok r) <| ?_
 rintro ⟨_, base, w0, F⟩ rfl
 refine reg 2 r <| bx 1 r r r r <| asg r r r <| dn <| at_seq <| reg 10 r <| fa fo81_0 r r r <| ld tk3 r r r r r r <| mv r r r <| ?_
 obtain ⟨r1, qr1, hy⟩ := bndI hy
 refine clp (w_tour_in qr1) ca63 r r (.cons (pu_I _) (.cons (pu_I _) (.nil))) (.one (pu_B _)) r <| nt r r r <| mv r r r <| cas 10 r (fun h1 => ?_) (fun h1 => ?_)
 ·replace hy := ifT hy h1
  refine sk r r <| sk r r <| sk r r <| pkt r r r r r <| dn <| cdt r <| reg 1 r <| asg r r r <| dn <| at_ret <| ?_
  replace hy := sj hy
  subst hy
  exact out1 r (.inl r) (look_of r) r (pu_I _)
 ·replace hy := ifF hy h1
  refine ldw tk81 r r r r r r <| ?_
  obtain ⟨r2, qr2, hy⟩ := bndI hy
  refine clp (w_tour_Right qr2) ca64 r r (.cons (pu_Fo _) (.nil)) (.one (pu_B _)) r <| nt r r r <| pkf r r r r r <| dn <| cd r (fun h2 => ?_) (fun h2 => ?_)
  ·replace hy := ifT hy h2
   refine reg 1 r <| asg r r r <| dn <| at_ret <| ?_
   replace hy := sj hy
   subst hy
   exact out1 r (.inl r) (look_of r) r (pu_I _)
  ·replace hy := ifF hy h2
   refine at_skip <| reg 4 r <| ldw tk81 r r r r r r <| mv r r r <| ?_
   obtain ⟨r3, qr3, hy⟩ := bndI hy
   refine clp (w_tour_place qr3) ca65 r r (.cons (pu_Fo _) (.cons (pu_I _) (.nil))) (.one (pu_I _)) r <| asg r r r <| dn <| at_ret <| ?_
   replace hy := sj hy
   subst hy
   exact out1 r (.inl r) (look_of r) r (pu_I _)
end Go.Ar
namespace Go.Ar
open Go.RowKit
def p_seek_tree_at_1 (K : Nat) (a0 : Ed) (a1 : Ed) : Option Int :=
 ((p_cmp_Compare_int K a0.u a1.u).bind fun r1 => ((p_cmp_Compare_int K a0.v a1.v).bind fun r2 => ((p_cmp_Or_int K [r1, r2]).bind fun r3 => some r3)))
theorem w_seek_tree_at_1 {K : Nat} {a0 : Ed} {a1 : Ed} {y : Int} (hy : p_seek_tree_at_1 K a0 a1 = some y) : Does PP GV 57 [] [(EdA a0), (EdA a1)] [] [] (I y) := by
 unfold p_seek_tree_at_1 at hy
 refine does_of at57 r (le_ok r) <| ?_
 rintro ⟨_, base, w0, F⟩ rfl
 refine reg 3 r <| bx 1 r r r r <| bx 2 r r r r <| asg r r r <| dn <| regd mixed 13 r <| fa fo47_0 r r r <| ld tk3 r r r r r r <| fa fo47_0 r r r <| ld tk3 r r r r r r <| ?_
 obtain ⟨r1, qr1, hy⟩ := bndI hy
 refine clp (w_cmp_Compare_int qr1) ca59 r r (.cons (pu_I _) (.cons (pu_I _) (.nil))) (.one (pu_I _)) r <| fa fo47_1 r r r <| ld tk3 r r r r r r <| fa fo47_1 r r r <| ld tk3 r r r r r r <| ?_
 obtain ⟨r2, qr2, hy⟩ := bndI hy
 refine clp (w_cmp_Compare_int qr2) ca59 r r (.cons (pu_I _) (.cons (pu_I _) (.nil))) (.one (pu_I _)) r <| bldsF I ([r1, r2] : List Int) 3 pu_I se29 r r r r r r r <| ?_
 obtain ⟨r3, qr3, hy⟩ := bndI hy
 refine clp (w_cmp_Or_int qr3) ca58 r r (.cons ((pu_l 1 pu_I) _) (.nil)) (.one (pu_I _)) r <| asg r r r <| dn ⟨by kernel_rfl, ?_⟩
 refine at_ret <| ?_
 replace hy := sj hy
 subst hy
 exact out1 r (.inl r) (look_of r) r (pu_I _)
def p_forest_each_L1 (K : Nat) (a1 : (List Ed)) (a2 : (Fo → Int → Int → Option (Fo × Int))) : Nat → Int → Int → (List (List Int)) → (List Bool) → Option (Int × (List (List Int)) × (List Bool))
 | 0, _, _, _, _ => none
 | n+1, v25_1, v1_1, v1_1_1, l1010_1 => (bif (decide (v25_1 < (a1.length : Int))) then (ixP a1 v25_1 fun v4 => ((a2 (Fo.mk v1_1 v1_1_1) v4.u v4.v).bind fun r5 => (apP 1 l1010_1.length [(r5.2 == 0)].length (p_forest_each_L1 K a1 a2 n (w64 (v25_1 + 1)) r5.1.n r5.1.rings (l1010_1 ++ [(r5.2 == 0)]))))) else some (v1_1, v1_1_1, l1010_1))
def p_forest_each (K : Nat) (a0 : Fo) (a1 : (List Ed)) (a2 : (Fo → Int → Int → Option (Fo × Int))) : Option (Fo × (List Bool) × Int) :=
 ((p_forest_ends K a1).bind fun r1 => ((p_forest_there K a0 r1).bind fun r2 => (bif (r2 != 0) then some (a0, [], r2) else ((p_forest_each_L1 K a1 a2 K 0 a0.n a0.rings [] : Option (Int × (List (List Int)) × (List Bool))).bind fun (v1_2, v1_2_1, l1010_2) => some ((Fo.mk (Fo.mk v1_2 v1_2_1).n (Fo.mk v1_2 v1_2_1).rings), l1010_2, 0)))))
theorem w_forest_each {K : Nat} {a0 : Fo} {a1 : (List Ed)} {a2 : (Fo → Int → Int → Option (Fo × Int))} {y : (Fo × (List Bool) × Int)} {a2f : FuncId} {a2s a2c : List AV} (a2h : ∀ {x0 : Fo} {x1 : Int} {x2 : Int} {r : (Fo × Int)}, a2 x0 x1 x2 = some r → Does PP GV a2f [] (a2s ++ [(FoA x0), (I x1), (I x2)] ++ a2c) [] [] (.tup [(FoA r.1), (I r.2)])) (a2k : callable PP a2f = true) (a2l : a2s.all flat = true ∧ a2c.all flat = true) (a2p : PuL a2s) (a2q : PuL a2c) (hy : p_forest_each K a0 a1 a2 = some y) : Does PP GV 112 [] [(FoA a0), ((SL 2 EdA) a1), .fn (.func a2f) a2s a2c] [] [] (.tup [(FoA y.1), ((SL 1 B) y.2.1), (I y.2.2)]) := by
 unfold p_forest_each at hy
 refine does_of at112 r (le_ok r) <| ?_
 rintro ⟨_, base, w0, F⟩ rfl
 refine reg 4 r <| bx 1 r r r r <| rg_alloc (s := 2) (gd_of r) zc81 (elems_one (by rfl)) (lt_ok r) <| asg r r r <| asg r r r <| dn <| at_seq <| regd mixed 5 r <| ldw tk81 r r r r r r <| mv r r r <| ?_
 obtain ⟨r1, qr1, hy⟩ := bndI hy
 refine clp (w_forest_ends qr1) ca131 r r (.cons ((pu_l 2 pu_Ed) _) (.nil)) (.one ((pu_l 1 pu_I) _)) r <| ?_
 obtain ⟨r2, qr2, hy⟩ := bndI hy
 refine clp (w_forest_there qr2) ca130 r r (.cons (pu_Fo _) (.cons ((pu_l 1 pu_I) _) (.nil))) (.one (pu_I _)) r <| asg r r r <| dn ⟨by kernel_rfl, ?_⟩
 refine reg 2 r <| mv r r r <| bn r r r r r <| dn <| cd r (fun h1 => ?_) (fun h1 => ?_)
 ·replace hy := ifT hy h1
  refine reg 5 r <| ldw tk81 r r r r r r <| mv r r r <| str tk81 r r r r r r r <| asg r r r <| asg r r r <| dn <| at_ret <| atnilP (B) 7 1 r <| ?_
  replace hy := sj hy
  subst hy
  exact endZ [] (rs := [_, _, _]) r (by simp) (.inl r) (.cell _ _ _ _ _ _ _ _ _ _ _ _ _ r r r tk81 r (.tmp _ _ _ _ r (.tmp _ _ _ _ r .nil))) (by simp) (PuL.rn (xs := [(FoA a0), ((SL 1 B) []), (I r2)]) (.cons (pu_Fo _) (.cons ((pu_l 1 pu_B) _) (.cons (pu_I _) (.nil)))))
 ·replace hy := ifF hy h1
  refine at_skip <| reg 1 r <| asg r r r <| dn <| ?_
  obtain ⟨o1, hy, k1, hk1, hc1⟩ := bndK hy
  refine meetI (fun (p : Int × (List (List Int)) × (List Bool) × Nat × Nat × Nat) => match p with | (v1_2, v1_2_1, l1010_2, g1_1, g2_1, g1010_1) => mk [(3, .ptr 1 g1_1 0 0), (6, .ptr 2 g2_1 0 0), (10, .own 1010 g1010_1 1 0 (l1010_2).length false)] [(1, some (g1_1, .buf 2 [.agg [(I v1_2), ((SL 1 (SL 1 I)) v1_2_1)]])), (2, some (g2_1, .buf 2 [.agg [(I 0), .v (.slice none 0 0)]])), (1010, some (g1010_1, .buf 1 (l1010_2.map B)))]) (fun p => match p with | (v1_2, v1_2_1, l1010_2, g1_1, g2_1, g1010_1) => k1 (v1_2, v1_2_1, l1010_2) = some y) ?_ ?_
  ·skip
   refine reg 3 r <| mv r r r <| lnf (f := EdA) slB41 r r r <| mv r r r <| dn <| at_block <| niloP (B) 10 1010 1 r <| wk (T' := [(2, .fn (.func a2f) a2s a2c), (3, .ptr 1 _ 0 0), (6, .ptr 2 _ 0 0), (10, .own 1010 _ 1 0 ([]).length false), (23, ((SL 2 EdA) a1)), (24, (I (a1.length : Int))), (25, (I 0))]) (H' := [(1, some (_, .buf 2 [.agg [(I a0.n), ((SL 1 (SL 1 I)) a0.rings)]])), (2, some (_, .buf 2 [.agg [(I 0), .v (.slice none 0 0)]])), (1010, some (_, .buf 1 ([].map B)))]) (.k r r (.k r r (.k r r (.k r r (.k r r (.k r r (.k r r .nil))))))) (.k r r (.k r r (.k r r .nil))) <| loopI (fun (p : Nat × Int × Int × (List (List Int)) × (List Bool) × Nat × Nat × Nat) => match p with | (n2, v25_1, v1_1, v1_1_1, l1010_1, g1_2, g2_2, g1010_2) => mk [(2, .fn (.func a2f) a2s a2c), (3, .ptr 1 g1_2 0 0), (6, .ptr 2 g2_2 0 0), (10, .own 1010 g1010_2 1 0 (l1010_1).length false), (23, ((SL 2 EdA) a1)), (24, (I (a1.length : Int))), (25, (I v25_1))] [(1, some (g1_2, .buf 2 [.agg [(I v1_1), ((SL 1 (SL 1 I)) v1_1_1)]])), (2, some (g2_2, .buf 2 [.agg [(I 0), .v (.slice none 0 0)]])), (1010, some (g1010_2, .buf 1 (l1010_1.map B)))]) (fun p => match p with | (n2, v25_1, v1_1, v1_1_1, l1010_1, g1_2, g2_2, g1010_2) => p_forest_each_L1 K a1 a2 n2 v25_1 v1_1 v1_1_1 l1010_1 = some o1) (fun p => p.1) ?_ (K, 0, a0.n, a0.rings, [], _, _, _) hy _
   rintro ⟨n2, v25_1, v1_1, v1_1_1, l1010_1, g1_2, g2_2, g1010_2⟩ cl hy
   cases n2 with | zero => cases hy | succ n2 => ?_
   change At _ cl (mk _ _) _
   replace hy : p_forest_each_L1 K a1 a2 (n2+1) v25_1 v1_1 v1_1_1 l1010_1 = some o1 := hy
   rw [p_forest_each_L1] at hy
   refine reg 1 r <| bn r r r r r <| dn <| at_seq <| cd r (fun h4 => ?_) (fun h4 => ?_)
   ·replace hy := ifT hy h4
    refine at_skip <| at_seq <| at_block <| reg 4 r <| ?_
    obtain ⟨i3, v4, qi3, xv4, hy⟩ := ixI hy
    refine fixP (f := EdA) sl41 qi3 xv4 r r r r <| fldw tk47 r r r r <| rg_alloc (s := 3) (gd_of r) zc47 (elems_one (by rfl)) (lt_ok r) <| str tk47 r r r r r r r <| dn <| reg 13 r <| mv r r r <| ldw tk81 r r r r r r <| fa fo47_0 r r r <| ld tk3 r r r r r r <| fa fo47_1 r r r <| ld tk3 r r r r r r <| ?_
    obtain ⟨r5, qr5, hy⟩ := bndI hy
    refine clv (a2h qr5) a2k r r r r a2l (puL3 a2p (.cons (pu_Fo _) (.cons (pu_I _) (.cons (pu_I _) (.nil)))) a2q) (.tup (.cons (pu_Fo _) (.cons (pu_I _) (.nil)))) r <| mv r r r <| ext r r r r <| ext r r r r <| rg_alloc (s := 4) (gd_of r) zc81 (elems_one (by rfl)) (lt_ok r) <| str tk81 r r r r r r r <| asg r r r <| dn <| reg 6 r <| mv r r r <| mv r r r <| bn r r r r r <| bldsP B ([(r5.2 == 0)] : List Bool) 5 se66 r r r r r r r <| ?_
    obtain ⟨k6a, k6b, hy⟩ := apI hy
    refine apoP (f := B) (l := l1010_1) (zs := [(r5.2 == 0)]) se66 k6a k6b r r r r r r <| asg r r r <| dn <| reg1 2 r <| ldw tk81 r r r r r r <| str tk81 r r r r r r r <| dn <| at_bn <| reg1 2 r <| bn r r r r r <| mv r r r <| dn <| againI (n2, (w64 (v25_1 + 1)), r5.1.n, r5.1.rings, (l1010_1 ++ [(r5.2 == 0)]), _, _, _) r hy (Nat.lt_succ_self _) (.k r r (.k r r (.k r r (.k r r (.k r r (.k r r (.k r r .nil))))))) (.k r r (.k r r (.k r r .nil)))
   ·replace hy := ifF hy h4
    refine at_exit <| at_te <| at_te <| at_inBlock <| ?_
    replace hy := sj hy
    subst hy
    refine metI (v1_1, v1_1_1, l1010_1, _, _, _) r hc1 (.k r r (.k r r (.k r r .nil))) (.k r r (.k r r (.k r r .nil)))
  ·rintro ⟨v1_2, v1_2_1, l1010_2, g1_1, g2_1, g1010_1⟩ cl hy
   subst hk1
   change At _ cl (mk _ _) _
   refine reg 5 r <| ldw tk81 r r r r r r <| mv r r r <| str tk81 r r r r r r r <| asg r r r <| asg r r r <| dn <| at_ret <| frzP (f := B) (l := l1010_2) 7 1010 r r pu_B <| ?_
   replace hy := sj hy
   subst hy
   exact endZ [] (rs := [_, _, _]) r (by simp) (.inl r) (.cell _ _ _ _ _ _ _ _ _ _ _ _ _ r r r tk81 r (.tmp _ _ _ _ r (.tmp _ _ _ _ r .nil))) (by simp) (PuL.rn (xs := [(FoA (Fo.mk (Fo.mk v1_2 v1_2_1).n (Fo.mk v1_2 v1_2_1).rings)), ((SL 1 B) l1010_2), (I 0)]) (.cons (pu_Fo _) (.cons ((pu_l 1 pu_B) _) (.cons (pu_I _) (.nil)))))
def p_forest_Links (K : Nat) (a0 : Fo) (a1 : (List Ed)) : Option (Fo × (List Bool) × Int) :=
 ((p_forest_each K a0 a1 (fun (x0 : Fo) (x1 : Int) (x2 : Int) => p_tour_Link K x0 x1 x2)).bind fun r1 => some (r1.1, r1.2.1, r1.2.2))
theorem w_forest_Links {K : Nat} {a0 : Fo} {a1 : (List Ed)} {y : (Fo × (List Bool) × Int)} (hy : p_forest_Links K a0 a1 = some y) : Does PP GV 90 [] [(FoA a0), ((SL 2 EdA) a1)] [] [] (.tup [(FoA y.1), ((SL 1 B) y.2.1), (I y.2.2)]) := by
 unfold p_forest_Links at hy
 refine does_of at90 r (le_ok r) <| ?_
 rintro ⟨_, base, w0, F⟩ rfl
 refine reg 4 r <| bx 1 r r r r <| rg_alloc (s := 2) (gd_of r) zc81 (elems_one (by rfl)) (lt_ok r) <| asg r r r <| asg r r r <| dn <| reg 9 r <| ldw tk81 r r r r r r <| mv r r r <| ?_
 obtain ⟨r1, qr1, hy⟩ := bndI hy
 refine clp (w_forest_each (a2h := fun h => w_tour_Link h) (a2k := ca113) (a2l := ⟨r, r⟩) (a2p := .nil) (a2q := .nil) qr1) ca112 r r (.cons (pu_Fo _) (.cons ((pu_l 2 pu_Ed) _) (.cons (pu_fn (.nil) (.nil)) (.nil)))) (.tup (.cons (pu_Fo _) (.cons ((pu_l 1 pu_B) _) (.cons (pu_I _) (.nil))))) r <| ext r r r r <| ext r r r r <| ext r r r r <| str tk81 r r r r r r r <| asg r r r <| asg r r r <| dn <| at_ret <| ?_
 replace hy := sj hy
 subst hy
 exact endZ [] (rs := [_, _, _]) r (by simp) (.inl r) (.cell _ _ _ _ _ _ _ _ _ _ _ _ _ r r r tk81 r (.tmp _ _ _ _ r (.tmp _ _ _ _ r .nil))) (by simp) (PuL.rn (xs := [(FoA r1.1), ((SL 1 B) r1.2.1), (I r1.2.2)]) (.cons (pu_Fo _) (.cons ((pu_l 1 pu_B) _) (.cons (pu_I _) (.nil)))))
def p_forest_Of (K : Nat) (a0 : Int) (a1 : (List Ed)) : Option (Fo × Int) :=
 ((p_tour_Make K a0).bind fun r1 => (bif (r1.2 != 0) then some ((Fo.mk 0 []), r1.2) else ((p_forest_Links K r1.1 a1).bind fun r2 => (bif (r2.2.2 != 0) then some ((Fo.mk 0 []), r2.2.2) else some (r2.1, 0)))))
theorem w_forest_Of {K : Nat} {a0 : Int} {a1 : (List Ed)} {y : (Fo × Int)} (hy : p_forest_Of K a0 a1 = some y) : Does PP GV 61 [] [(I a0), ((SL 2 EdA) a1)] [] [] (.tup [(FoA y.1), (I y.2)]) := by
 unfold p_forest_Of at hy
 refine does_of at61 r (le_ok r) <| ?_
 rintro ⟨_, base, w0, F⟩ rfl
 refine reg 2 r <| rg_alloc (s := 1) (gd_of r) zc81 (elems_one (by rfl)) (lt_ok r) <| asg r r r <| dn <| reg 8 r <| mv r r r <| ?_
 obtain ⟨r1, qr1, hy⟩ := bndI hy
 refine clp (w_tour_Make qr1) ca89 r r (.cons (pu_I _) (.nil)) (.tup (.cons (pu_Fo _) (.cons (pu_I _) (.nil)))) r <| mv r r r <| ext r r r r <| ext r r r r <| rg_alloc (s := 2) (gd_of r) zc81 (elems_one (by rfl)) (lt_ok r) <| str tk81 r r r r r r r <| asg r r r <| dn <| at_seq <| reg 2 r <| mv r r r <| bn r r r r r <| dn <| cd r (fun h1 => ?_) (fun h1 => ?_)
 ·replace hy := ifT hy h1
  refine reg 4 r <| bld bd81 r r r r <| mv r r r <| str tk81 r r r r r r r <| asg r r r <| dn <| at_ret <| cellN (SL 1 I) 1 1 1 r r <| ?_
  replace hy := sj hy
  subst hy
  exact endZ [] (rs := [_, _]) r (by simp) (.inl r) (.cell _ _ _ _ _ _ _ _ _ _ _ _ _ r r r tk81 r (.tmp _ _ _ _ r .nil)) (by simp) (PuL.rn (xs := [(FoA (Fo.mk 0 [])), (I r1.2)]) (.cons (pu_Fo _) (.cons (pu_I _) (.nil))))
 ·replace hy := ifF hy h1
  refine at_skip <| reg 9 r <| ldw tk81 r r r r r r <| mv r r r <| ?_
  obtain ⟨r2, qr2, hy⟩ := bndI hy
  refine clp (w_forest_Links qr2) ca90 r r (.cons (pu_Fo _) (.cons ((pu_l 2 pu_Ed) _) (.nil))) (.tup (.cons (pu_Fo _) (.cons ((pu_l 1 pu_B) _) (.cons (pu_I _) (.nil))))) r <| mv r r r <| ext r r r r <| ext r r r r <| ext r r r r <| str tk81 r r r r r r r <| asg r r r <| dn <| at_seq <| reg 2 r <| mv r r r <| bn r r r r r <| dn <| cd r (fun h2 => ?_) (fun h2 => ?_)
  ·replace hy := ifT hy h2
   refine reg 4 r <| bld bd81 r r r r <| mv r r r <| str tk81 r r r r r r r <| asg r r r <| dn <| at_ret <| cellN (SL 1 I) 1 1 1 r r <| ?_
   replace hy := sj hy
   subst hy
   exact endZ [] (rs := [_, _]) r (by simp) (.inl r) (.cell _ _ _ _ _ _ _ _ _ _ _ _ _ r r r tk81 r (.tmp _ _ _ _ r .nil)) (by simp) (PuL.rn (xs := [(FoA (Fo.mk 0 [])), (I r2.2.2)]) (.cons (pu_Fo _) (.cons (pu_I _) (.nil))))
  ·replace hy := ifF hy h2
   refine at_skip <| reg 3 r <| ldw tk81 r r r r r r <| str tk81 r r r r r r r <| asg r r r <| dn <| at_ret <| ?_
   replace hy := sj hy
   subst hy
   exact endZ [] (rs := [_, _]) r (by simp) (.inl r) (.cell _ _ _ _ _ _ _ _ _ _ _ _ _ r r r tk81 r (.tmp _ _ _ _ r .nil)) (by simp) (PuL.rn (xs := [(FoA r2.1), (I 0)]) (.cons (pu_Fo _) (.cons (pu_I _) (.nil))))
def p_level_Right_L1 (K : Nat) (a0 : Gr) : Nat → Int → Int → Option (Sum Unit Bool)
 | 0, _, _ => none
 | n+1, v3_1, v25_1 => (bif (decide (v25_1 < (a0.ties.length : Int))) then (ixP a0.ties v25_1 fun v4 => (bif (decide (v4.u < 0)) then some (.inr false) else (bif (decide (v4.u ≥ v4.v)) then some (.inr false) else (bif (decide (v4.v ≥ a0.n)) then some (.inr false) else (bif (decide (v4.level < 0)) then some (.inr false) else (bif (decide (v4.level > v3_1)) then some (.inr false) else (bif (decide (v25_1 > 0)) then (ixP a0.ties (w64 (v25_1 - 1)) fun v6 => ((p_level_compare K v6 v4).bind fun r7 => (bif (decide (r7 ≥ 0)) then some (.inr false) else p_level_Right_L1 K a0 n v3_1 (w64 (v25_1 + 1))))) else p_level_Right_L1 K a0 n v3_1 (w64 (v25_1 + 1))))))))) else some (.inl ()))
def p_level_Right (K : Nat) (a0 : Gr) : Option Bool :=
 ((p_level_sized K a0.n).bind fun r1 => (bif (!r1) then some false else (bif (decide ((a0.ties.length : Int) > 400)) then some false else ((p_level_Top K a0.n).bind fun r2 => ((p_level_Right_L1 K a0 K r2 0 : Option (Sum Unit Bool)).bind fun | .inl _ => ((p_level_trees K a0 0).bind fun r8 => ((p_forest_Of K a0.n r8).bind fun r9 => (bif (r9.2 == 0) then some ((r9.1.rings.length : Int) == (w64 (a0.n - (r8.length : Int)))) else some false))) | .inr r => some r)))))
theorem w_level_Right {K : Nat} {a0 : Gr} {y : Bool} (hy : p_level_Right K a0 = some y) : Does PP GV 60 [] [(GrA a0)] [] [] (B y) := by
 unfold p_level_Right at hy
 refine does_of at60 r (le_ok r) <| ?_
 rintro ⟨_, base, w0, F⟩ rfl
 refine reg 2 r <| bx 1 r r r r <| asg r r r <| dn <| at_seq <| reg 10 r <| fa fo24_0 r r r <| ld tk3 r r r r r r <| ?_
 obtain ⟨r1, qr1, hy⟩ := bndI hy
 refine clp (w_level_sized qr1) ca86 r r (.cons (pu_I _) (.nil)) (.one (pu_B _)) r <| nt r r r <| mv r r r <| cas 13 r (fun h1 => ?_) (fun h1 => ?_)
 ·replace hy := ifT hy h1
  refine sk r r <| sk r r <| sk r r <| sk r r <| pkt r r r r r <| dn <| cdt r <| reg 1 r <| asg r r r <| dn <| at_ret <| ?_
  replace hy := sj hy
  subst hy
  exact out1 r (.inl r) (look_of r) r (pu_B _)
 ·replace hy := ifF hy h1
  refine fa fo24_1 r r r <| ld tk22 r r r r r r <| lnf (f := TiA) slB22 r r r <| bn r r r r r <| pkf r r r r r <| dn <| cd r (fun h2 => ?_) (fun h2 => ?_)
  ·replace hy := ifT hy h2
   refine reg 1 r <| asg r r r <| dn <| at_ret <| ?_
   replace hy := sj hy
   subst hy
   exact out1 r (.inl r) (look_of r) r (pu_B _)
  ·replace hy := ifF hy h2
   refine at_skip <| reg 4 r <| fa fo24_0 r r r <| ld tk3 r r r r r r <| ?_
   obtain ⟨r2, qr2, hy⟩ := bndI hy
   refine clp (w_level_Top qr2) ca87 r r (.cons (pu_I _) (.nil)) (.one (pu_I _)) r <| asg r r r <| dn <| ?_
   obtain ⟨o1, hy, k1, hk1, hc1⟩ := bndK hy
   refine meetI (fun (p : Nat) => match p with | g1_1 => mk [(1, .ptr 1 g1_1 0 0)] [(1, some (g1_1, .buf 2 [.agg [(I a0.n), ((SL 4 TiA) a0.ties)]]))]) (fun p => match p with | g1_1 => k1 (.inl ()) = some y) ?_ ?_
   ·skip
    refine reg 4 r <| fa fo24_1 r r r <| ld tk22 r r r r r r <| lnf (f := TiA) slB22 r r r <| mv r r r <| dn <| at_block <| wk (T' := [(1, .ptr 1 _ 0 0), (3, (I r2)), (23, ((SL 4 TiA) a0.ties)), (24, (I (a0.ties.length : Int))), (25, (I 0))]) (H' := [(1, some (_, .buf 2 [.agg [(I a0.n), ((SL 4 TiA) a0.ties)]]))]) (.k r r (.k r r (.k r r (.k r r (.k r r .nil))))) (.k r r .nil) <| loopI (fun (p : Nat × Int × Int × Nat) => match p with | (n2, v3_1, v25_1, g1_2) => mk [(1, .ptr 1 g1_2 0 0), (3, (I v3_1)), (23, ((SL 4 TiA) a0.ties)), (24, (I (a0.ties.length : Int))), (25, (I v25_1))] [(1, some (g1_2, .buf 2 [.agg [(I a0.n), ((SL 4 TiA) a0.ties)]]))]) (fun p => match p with | (n2, v3_1, v25_1, g1_2) => p_level_Right_L1 K a0 n2 v3_1 v25_1 = some o1) (fun p => p.1) ?_ (K, r2, 0, _) hy _
    rintro ⟨n2, v3_1, v25_1, g1_2⟩ cl hy
    cases n2 with | zero => cases hy | succ n2 => ?_
    change At _ cl (mk _ _) _
    replace hy : p_level_Right_L1 K a0 (n2+1) v3_1 v25_1 = some o1 := hy
    rw [p_level_Right_L1] at hy
    refine reg 1 r <| bn r r r r r <| dn <| at_seq <| cd r (fun h5 => ?_) (fun h5 => ?_)
    ·replace hy := ifT hy h5
     refine at_skip <| at_seq <| at_block <| reg 6 r <| mv r r r <| ?_
     obtain ⟨i3, v4, qi3, xv4, hy⟩ := ixI hy
     refine fixP (f := TiA) sl22 qi3 xv4 r r r r <| fldw tk45 r r r r <| rg_alloc (s := 2) (gd_of r) zc45 (elems_one (by rfl)) (lt_ok r) <| asg r r r <| str tk45 r r r r r r r <| dn <| regd mixed 43 r <| fa fo45_0 r r r <| ld tk3 r r r r r r <| bn r r r r r <| mv r r r <| cas 33 r (fun h6 => ?_) (fun h6 => ?_)
     ·replace hy := ifT hy h6
      refine sk r r <| sk r r <| sk r r <| sk r r <| sk r r <| pkt r r r r r <| mv r r r <| sk r r <| sk r r <| sk r r <| sk r r <| sk r r <| pkt r r r r r <| mv r r r <| sk r r <| sk r r <| sk r r <| pkt r r r r r <| mv r r r <| sk r r <| sk r r <| sk r r <| sk r r <| pkt r r r r r <| mv r r r <| sk r r <| sk r r <| sk r r <| sk r r <| sk r r <| sk r r <| sk r r <| sk r r <| sk r r <| sk r r <| sk r r <| sk r r <| sk r r <| pkt r r r r r <| dn ⟨by kernel_rfl, ?_⟩
      refine cdt r <| reg 1 r <| asg r r r <| dn <| at_ret <| ?_
      replace hy := sj hy
      subst hy
      subst hk1
      replace hc1 := Option.some.inj hc1
      subst hc1
      exact out1 r (.inl r) (look_of r) r (pu_B _)
     ·replace hy := ifF hy h6
      refine fa fo45_0 r r r <| ld tk3 r r r r r r <| fa fo45_1 r r r <| ld tk3 r r r r r r <| bn r r r r r <| pkf r r r r r <| mv r r r <| cas 40 r (fun h7 => ?_) (fun h7 => ?_)
      ·replace hy := ifT hy h7
       refine sk r r <| sk r r <| sk r r <| sk r r <| sk r r <| pkt r r r r r <| mv r r r <| sk r r <| sk r r <| sk r r <| pkt r r r r r <| mv r r r <| sk r r <| sk r r <| sk r r <| sk r r <| pkt r r r r r <| mv r r r <| sk r r <| sk r r <| sk r r <| sk r r <| sk r r <| sk r r <| sk r r <| sk r r <| sk r r <| sk r r <| sk r r <| sk r r <| sk r r <| pkt r r r r r <| dn ⟨by kernel_rfl, ?_⟩
       refine cdt r <| reg 1 r <| asg r r r <| dn <| at_ret <| ?_
       replace hy := sj hy
       subst hy
       subst hk1
       replace hc1 := Option.some.inj hc1
       subst hc1
       exact out1 r (.inl r) (look_of r) r (pu_B _)
      ·replace hy := ifF hy h7
       refine fa fo45_1 r r r <| ld tk3 r r r r r r <| fa fo24_0 r r r <| ld tk3 r r r r r r <| bn r r r r r <| pkf r r r r r <| mv r r r <| cas 47 r (fun h8 => ?_) (fun h8 => ?_)
       ·replace hy := ifT hy h8
        refine sk r r <| sk r r <| sk r r <| pkt r r r r r <| mv r r r <| sk r r <| sk r r <| sk r r <| sk r r <| pkt r r r r r <| mv r r r <| sk r r <| sk r r <| sk r r <| sk r r <| sk r r <| sk r r <| sk r r <| sk r r <| sk r r <| sk r r <| sk r r <| sk r r <| sk r r <| pkt r r r r r <| dn ⟨by kernel_rfl, ?_⟩
        refine cdt r <| reg 1 r <| asg r r r <| dn <| at_ret <| ?_
        replace hy := sj hy
        subst hy
        subst hk1
        replace hc1 := Option.some.inj hc1
        subst hc1
        exact out1 r (.inl r) (look_of r) r (pu_B _)
       ·replace hy := ifF hy h8
        refine fa fo45_2 r r r <| ld tk3 r r r r r r <| bn r r r r r <| pkf r r r r r <| mv r r r <| cas 52 r (fun h9 => ?_) (fun h9 => ?_)
        ·replace hy := ifT hy h9
         refine sk r r <| sk r r <| sk r r <| sk r r <| pkt r r r r r <| mv r r r <| sk r r <| sk r r <| sk r r <| sk r r <| sk r r <| sk r r <| sk r r <| sk r r <| sk r r <| sk r r <| sk r r <| sk r r <| sk r r <| pkt r r r r r <| dn ⟨by kernel_rfl, ?_⟩
         refine cdt r <| reg 1 r <| asg r r r <| dn <| at_ret <| ?_
         replace hy := sj hy
         subst hy
         subst hk1
         replace hc1 := Option.some.inj hc1
         subst hc1
         exact out1 r (.inl r) (look_of r) r (pu_B _)
        ·replace hy := ifF hy h9
         refine fa fo45_2 r r r <| ld tk3 r r r r r r <| mv r r r <| bn r r r r r <| pkf r r r r r <| mv r r r <| cas 58 r (fun h10 => ?_) (fun h10 => ?_)
         ·replace hy := ifT hy h10
          refine sk r r <| sk r r <| sk r r <| sk r r <| sk r r <| sk r r <| sk r r <| sk r r <| sk r r <| sk r r <| sk r r <| sk r r <| sk r r <| pkt r r r r r <| dn ⟨by kernel_rfl, ?_⟩
          refine cdt r <| reg 1 r <| asg r r r <| dn <| at_ret <| ?_
          replace hy := sj hy
          subst hy
          subst hk1
          replace hc1 := Option.some.inj hc1
          subst hc1
          exact out1 r (.inl r) (look_of r) r (pu_B _)
         ·replace hy := ifF hy h10
          refine mv r r r <| bn r r r r r <| mv r r r <| cas 61 r (fun h11 => ?_) (fun h11 => ?_)
          ·replace hy := ifT hy h11
           refine fa fo24_1 r r r <| ld tk22 r r r r r r <| mv r r r <| bn r r r r r <| ?_
           obtain ⟨i5, v6, qi5, xv6, hy⟩ := ixI hy
           refine fixP (f := TiA) sl22 qi5 xv6 r r r r <| fldw tk45 r r r r <| ldw tk45 r r r r r r <| ?_
           obtain ⟨r7, qr7, hy⟩ := bndI hy
           refine clp (w_level_compare qr7) ca88 r r (.cons (pu_Ti _) (.cons (pu_Ti _) (.nil))) (.one (pu_I _)) r <| bn r r r r r <| pkt r r r r r <| pkf r r r r r <| dn ⟨by kernel_rfl, ?_⟩
           refine cd r (fun h12 => ?_) (fun h12 => ?_)
           ·replace hy := ifT hy h12
            refine reg 1 r <| asg r r r <| dn <| at_ret <| ?_
            replace hy := sj hy
            subst hy
            subst hk1
            replace hc1 := Option.some.inj hc1
            subst hc1
            exact out1 r (.inl r) (look_of r) r (pu_B _)
           ·replace hy := ifF hy h12
            refine at_skip <| at_bn <| reg1 2 r <| bn r r r r r <| mv r r r <| dn <| againI (n2, v3_1, (w64 (v25_1 + 1)), _) r hy (Nat.lt_succ_self _) (.k r r (.k r r (.k r r (.k r r (.k r r .nil))))) (.k r r .nil)
          ·replace hy := ifF hy h11
           refine sk r r <| sk r r <| sk r r <| sk r r <| sk r r <| sk r r <| sk r r <| sk r r <| sk r r <| pkf r r r r r <| pkf r r r r r <| dn ⟨by kernel_rfl, ?_⟩
           refine cdf r <| at_skip <| at_bn <| reg1 2 r <| bn r r r r r <| mv r r r <| dn <| againI (n2, v3_1, (w64 (v25_1 + 1)), _) r hy (Nat.lt_succ_self _) (.k r r (.k r r (.k r r (.k r r (.k r r .nil))))) (.k r r .nil)
    ·replace hy := ifF hy h5
     refine at_exit <| at_te <| at_te <| at_inBlock <| ?_
     replace hy := sj hy
     subst hy
     refine metI _ r hc1 (.k r r .nil) (.k r r .nil)
   ·rintro g1_1 cl hy
    subst hk1
    change At _ cl (mk _ _) _
    refine reg 3 r <| ldw tk24 r r r r r r <| ?_
    obtain ⟨r8, qr8, hy⟩ := bndI hy
    refine clp (w_level_trees qr8) ca62 r r (.cons (pu_Gr _) (.cons (pu_I _) (.nil))) (.one ((pu_l 2 pu_Ed) _)) r <| asg r r r <| dn <| reg 10 r <| fa fo24_0 r r r <| ld tk3 r r r r r r <| mv r r r <| ?_
    obtain ⟨r9, qr9, hy⟩ := bndI hy
    refine clp (w_forest_Of qr9) ca61 r r (.cons (pu_I _) (.cons ((pu_l 2 pu_Ed) _) (.nil))) (.tup (.cons (pu_Fo _) (.cons (pu_I _) (.nil)))) r <| mv r r r <| ext r r r r <| ext r r r r <| rg_alloc (s := 3) (gd_of r) zc81 (elems_one (by rfl)) (lt_ok r) <| str tk81 r r r r r r r <| asg r r r <| dn <| reg 14 r <| mv r r r <| bn r r r r r <| mv r r r <| cas 85 r (fun h4 => ?_) (fun h4 => ?_)
    ·replace hy := ifT hy h4
     refine fa fo81_1 r r r <| ld tk30 r r r r r r <| lnf (f := (SL 1 I)) slB30 r r r <| fa fo24_0 r r r <| ld tk3 r r r r r r <| mv r r r <| lnf (f := EdA) slB41 r r r <| bn r r r r r <| bn r r r r r <| pkt r r r r r <| asg r r r <| dn <| at_ret <| ?_
     replace hy := sj hy
     subst hy
     exact out1 r (.inl r) (look_of r) r (pu_B _)
    ·replace hy := ifF hy h4
     refine sk r r <| sk r r <| sk r r <| sk r r <| sk r r <| sk r r <| sk r r <| sk r r <| sk r r <| pkf r r r r r <| asg r r r <| dn <| at_ret <| ?_
     replace hy := sj hy
     subst hy
     exact out1 r (.inl r) (look_of r) r (pu_B _)
def p_level_Forest (K : Nat) (a0 : Gr) (a1 : Int) : Option (Fo × Int) :=
 ((p_level_Right K a0).bind fun r1 => (bif (!r1) then some ((Fo.mk 0 []), 1) else ((p_level_trees K a0 a1).bind fun r2 => ((p_forest_Of K a0.n r2).bind fun r3 => some (r3.1, r3.2)))))
theorem w_level_Forest {K : Nat} {a0 : Gr} {a1 : Int} {y : (Fo × Int)} (hy : p_level_Forest K a0 a1 = some y) : Does PP GV 35 [] [(GrA a0), (I a1)] [] [] (.tup [(FoA y.1), (I y.2)]) := by
 unfold p_level_Forest at hy
 refine does_of at35 r (le_ok r) <| ?_
 rintro ⟨_, base, w0, F⟩ rfl
 refine reg 3 r <| bx 1 r r r r <| rg_alloc (s := 2) (gd_of r) zc81 (elems_one (by rfl)) (lt_ok r) <| asg r r r <| dn <| at_seq <| reg 3 r <| ldw tk24 r r r r r r <| ?_
 obtain ⟨r1, qr1, hy⟩ := bndI hy
 refine clp (w_level_Right qr1) ca60 r r (.cons (pu_Gr _) (.nil)) (.one (pu_B _)) r <| nt r r r <| dn <| cd r (fun h1 => ?_) (fun h1 => ?_)
 ·replace hy := ifT hy h1
  refine reg 3 r <| bld bd81 r r r r <| str tk81 r r r r r r r <| asg r r r <| dn <| at_ret <| cellN (SL 1 I) 2 1 1 r r <| ?_
  replace hy := sj hy
  subst hy
  exact endZ [] (rs := [_, _]) r (by simp) (.inl r) (.cell _ _ _ _ _ _ _ _ _ _ _ _ _ r r r tk81 r (.tmp _ _ _ _ r .nil)) (by simp) (PuL.rn (xs := [(FoA (Fo.mk 0 [])), (I 1)]) (.cons (pu_Fo _) (.cons (pu_I _) (.nil))))
 ·replace hy := ifF hy h1
  refine at_skip <| regd mixed 10 r <| fa fo24_0 r r r <| ld tk3 r r r r r r <| ldw tk24 r r r r r r <| mv r r r <| ?_
  obtain ⟨r2, qr2, hy⟩ := bndI hy
  refine clp (w_level_trees qr2) ca62 r r (.cons (pu_Gr _) (.cons (pu_I _) (.nil))) (.one ((pu_l 2 pu_Ed) _)) r <| ?_
  obtain ⟨r3, qr3, hy⟩ := bndI hy
  refine clp (w_forest_Of qr3) ca61 r r (.cons (pu_I _) (.cons ((pu_l 2 pu_Ed) _) (.nil))) (.tup (.cons (pu_Fo _) (.cons (pu_I _) (.nil)))) r <| ext r r r r <| ext r r r r <| str tk81 r r r r r r r <| asg r r r <| dn ⟨by kernel_rfl, ?_⟩
  refine at_ret <| ?_
  replace hy := sj hy
  subst hy
  exact endZ [] (rs := [_, _]) r (by simp) (.inl r) (.cell _ _ _ _ _ _ _ _ _ _ _ _ _ r r r tk81 r (.tmp _ _ _ _ r .nil)) (by simp) (PuL.rn (xs := [(FoA r3.1), (I r3.2)]) (.cons (pu_Fo _) (.cons (pu_I _) (.nil))))
def p_sum_Build_L1 (K : Nat) (a1 : (List Int)) : Nat → Int → (List Int) → Option (List Int)
 | 0, _, _ => none
 | n+1, v37_1, l2_1 => (bif (decide (v37_1 < (a1.length : Int))) then (ixP a1 v37_1 fun v5 => (bdP l2_1.length v37_1 fun i6 => gtP l2_1 i6 fun v7 => (bdP l2_1.length (w64 (v37_1 + 1)) fun i8 => gtP l2_1 i8 fun v9 => p_sum_Build_L1 K a1 n (w64 (v37_1 + 1)) (l2_1.set i8 (w64 (v7 + v5)))))) else some l2_1)
def p_sum_Build_L3 (K : Nat) (l2_2 : (List Int)) (v58_6 : Int) (a0 : Tw) (l3_6 : (List (Option (List Int)))) (i13 : Nat) : Nat → (List Int) → Int → Int → (List Int) → Option (List (Option (List Int)))
 | 0, _, _, _, _ => none
 | n+1, v63_4, v64_4, v65_4, l7003_4 => (bif (decide (v65_4 < v64_4)) then (ixP v63_4 v65_4 fun v16 => (bdP l2_2.length v16 fun i17 => gtP l2_2 i17 fun v18 => (bdP l2_2.length v58_6 fun i19 => gtP l2_2 i19 fun v20 => (((bif (decide (v16 ≤ v58_6)) then (bdP l2_2.length (a0.tokens.length : Int) fun i21 => gtP l2_2 i21 fun v22 => some (w64 ((w64 (v18 - v20)) + v22))) else some (w64 (v18 - v20))) : Option Int).bind fun v15_3 => (apP 8 l7003_4.length [v15_3].length (p_sum_Build_L3 K l2_2 v58_6 a0 l3_6 i13 n v63_4 v64_4 (w64 (v65_4 + 1)) (l7003_4 ++ [v15_3]))))))) else some (l3_6.set i13 (some l7003_4)))
def p_sum_Build_L2 (K : Nat) (a0 : Tw) (l2_2 : (List Int)) : Nat → Int → (List (Option (List Int))) → Option (List (Option (List Int)))
 | 0, _, _ => none
 | n+1, v58_6, l3_6 => (bif (decide (v58_6 < (a0.next.length : Int))) then (((ixP a0.next v58_6 fun v12 => (bdP l3_6.length v58_6 fun i13 => gtP l3_6 i13 fun v14 => guP (v14.isNone = true) (p_sum_Build_L3 K l2_2 v58_6 a0 l3_6 i13 K v12 (v12.length : Int) 0 []))) : Option (List (Option (List Int)))).bind fun l3_5 => p_sum_Build_L2 K a0 l2_2 n (w64 (v58_6 + 1)) l3_5) else some l3_6)
def p_sum_Build (K : Nat) (a0 : Tw) (a1 : (List Int)) : Option ((List (List Int)) × Int) :=
 (bif ((a1.length : Int) != (a0.tokens.length : Int)) then some ([], 1) else ((p_tower_Right K a0).bind fun r1 => (bif (!r1) then some ([], 1) else ((p_slices_ContainsFunc_Sint_int K a1 (fun (x0 : Int) => p_sum_odd K x0)).bind fun r2 => (bif r2 then some ([], 1) else (mkP 8 (w64 ((a0.tokens.length : Int) + 1)) fun i3 => ((p_sum_Build_L1 K a1 K 0 (List.replicate i3 (0 : Int)) : Option (List Int)).bind fun l2_2 => (mkP 24 (a0.tokens.length : Int) fun i10 => ((p_sum_Build_L2 K a0 l2_2 K 0 (List.replicate i10 (none : (Option (List Int)))) : Option (List (Option (List Int)))).bind fun l3_7 => some ((l3_7.map fun o => o.getD []), 0))))))))))
theorem w_sum_Build {K : Nat} {a0 : Tw} {a1 : (List Int)} {y : ((List (List Int)) × Int)} (hy : p_sum_Build K a0 a1 = some y) : Does PP GV 44 [] [(TwA a0), ((SL 1 I) a1)] [] [] (.tup [((SL 1 (SL 1 I)) y.1), (I y.2)]) := by
 unfold p_sum_Build at hy
 refine does_of at44 r (le_ok r) <| ?_
 rintro ⟨_, base, w0, F⟩ rfl
 refine reg 3 r <| bx 1 r r r r <| asg r r r <| asg r r r <| dn <| reg 4 r <| fa fo32_0 r r r <| ld tk29 r r r r r r <| lnf (f := I) slB29 r r r <| asg r r r <| dn <| at_seq <| reg 13 r <| mv r r r <| lnf (f := I) slB29 r r r <| mv r r r <| bn r r r r r <| mv r r r <| cas 23 r (fun h1 => ?_) (fun h1 => ?_)
 ·replace hy := ifT hy h1
  refine sk r r <| sk r r <| sk r r <| pkt r r r r r <| mv r r r <| sk r r <| sk r r <| pkt r r r r r <| dn <| cdt r <| reg 2 r <| asg r r r <| asg r r r <| dn <| at_ret <| atnilP ((SL 1 I)) 4 1 r <| ?_
  replace hy := sj hy
  subst hy
  exact outs (rs := [4, 5]) (res2 r) (by simp) (.inl r) (looks_of r) r (.cons ((pu_l 1 (pu_l 1 pu_I)) _) (.cons (pu_I _) (.nil)))
 ·replace hy := ifF hy h1
  refine ldw tk32 r r r r r r <| ?_
  obtain ⟨r1, qr1, hy⟩ := bndI hy
  refine clp (w_tower_Right qr1) ca70 r r (.cons (pu_Tw _) (.nil)) (.one (pu_B _)) r <| nt r r r <| pkf r r r r r <| mv r r r <| cas 28 r (fun h2 => ?_) (fun h2 => ?_)
  ·replace hy := ifT hy h2
   refine sk r r <| sk r r <| pkt r r r r r <| dn <| cdt r <| reg 2 r <| asg r r r <| asg r r r <| dn <| at_ret <| atnilP ((SL 1 I)) 4 1 r <| ?_
   replace hy := sj hy
   subst hy
   exact outs (rs := [4, 5]) (res2 r) (by simp) (.inl r) (looks_of r) r (.cons ((pu_l 1 (pu_l 1 pu_I)) _) (.cons (pu_I _) (.nil)))
  ·replace hy := ifF hy h2
   refine mv r r r <| ?_
   obtain ⟨r2, qr2, hy⟩ := bndI hy
   refine clp (w_slices_ContainsFunc_Sint_int (a1h := fun h => w_sum_odd h) (a1k := ca71) (a1l := ⟨r, r⟩) (a1p := .nil) (a1q := .nil) qr2) ca40 r r (.cons ((pu_l 1 pu_I) _) (.cons (pu_fn (.nil) (.nil)) (.nil))) (.one (pu_B _)) r <| pkf r r r r r <| dn <| cd r (fun h3 => ?_) (fun h3 => ?_)
   ·replace hy := ifT hy h3
    refine reg 2 r <| asg r r r <| asg r r r <| dn <| at_ret <| atnilP ((SL 1 I)) 4 1 r <| ?_
    replace hy := sj hy
    subst hy
    exact outs (rs := [4, 5]) (res2 r) (by simp) (.inl r) (looks_of r) r (.cons ((pu_l 1 (pu_l 1 pu_I)) _) (.cons (pu_I _) (.nil)))
   ·replace hy := ifF hy h3
    refine at_skip <| reg 4 r <| mv r r r <| bn r r r r r <| ?_
    obtain ⟨i3, qi3, bi3, hy⟩ := mkI hy
    refine mksP (f := I) 0 2 se29 qi3 bi3 r r r r r r <| asg r r r <| dn <| ?_
    obtain ⟨o1, hy, k1, hk1, hc1⟩ := bndK hy
    refine meetI (fun (p : (List Int) × Nat × Nat) => match p with | (l2_2, g1_1, g2_1) => mk [(2, .ptr 1 g1_1 0 0), (6, (I (a0.tokens.length : Int))), (7, .own 2 g2_1 1 0 (l2_2).length false)] [(1, some (g1_1, .buf 3 [.agg [((SL 1 I) a0.tokens), ((SL 1 I) a0.heights), ((SL 1 (SL 1 I)) a0.next)]])), (2, some (g2_1, .buf 1 (l2_2.map I)))]) (fun p => match p with | (l2_2, g1_1, g2_1) => k1 l2_2 = some y) ?_ ?_
    ·skip
     refine reg 3 r <| mv r r r <| lnf (f := I) slB29 r r r <| mv r r r <| dn <| at_block <| wk (T' := [(2, .ptr 1 _ 0 0), (6, (I (a0.tokens.length : Int))), (7, .own 2 _ 1 0 ((List.replicate i3 (0 : Int))).length false), (35, ((SL 1 I) a1)), (36, (I (a1.length : Int))), (37, (I 0))]) (H' := [(1, some (_, .buf 3 [.agg [((SL 1 I) a0.tokens), ((SL 1 I) a0.heights), ((SL 1 (SL 1 I)) a0.next)]])), (2, some (_, .buf 1 ((List.replicate i3 (0 : Int)).map I)))]) (.k r r (.k r r (.k r r (.k r r (.k r r (.k r r .nil)))))) (.k r r (.k r r .nil)) <| loopI (fun (p : Nat × Int × (List Int) × Nat × Nat) => match p with | (n2, v37_1, l2_1, g1_2, g2_2) => mk [(2, .ptr 1 g1_2 0 0), (6, (I (a0.tokens.length : Int))), (7, .own 2 g2_2 1 0 (l2_1).length false), (35, ((SL 1 I) a1)), (36, (I (a1.length : Int))), (37, (I v37_1))] [(1, some (g1_2, .buf 3 [.agg [((SL 1 I) a0.tokens), ((SL 1 I) a0.heights), ((SL 1 (SL 1 I)) a0.next)]])), (2, some (g2_2, .buf 1 (l2_1.map I)))]) (fun p => match p with | (n2, v37_1, l2_1, g1_2, g2_2) => p_sum_Build_L1 K a1 n2 v37_1 l2_1 = some o1) (fun p => p.1) ?_ (K, 0, (List.replicate i3 (0 : Int)), _, _) hy _
     rintro ⟨n2, v37_1, l2_1, g1_2, g2_2⟩ cl hy
     cases n2 with | zero => cases hy | succ n2 => ?_
     change At _ cl (mk _ _) _
     replace hy : p_sum_Build_L1 K a1 (n2+1) v37_1 l2_1 = some o1 := hy
     rw [p_sum_Build_L1] at hy
     refine reg 1 r <| bn r r r r r <| dn <| at_seq <| cd r (fun h6 => ?_) (fun h6 => ?_)
     ·replace hy := ifT hy h6
      refine at_skip <| at_seq <| at_block <| reg 5 r <| mv r r r <| ?_
      obtain ⟨i4, v5, qi4, xv5, hy⟩ := ixI hy
      refine fixP (f := I) sl29 qi4 xv5 r r r r <| fld tk3 r r r r <| asg r r r <| asg r r r <| dn <| reg1 11 r <| mv r r r <| mv r r r <| bn r r r r r <| mv r r r <| mv r r r <| ?_
      obtain ⟨i6, qi6, bi6, hy⟩ := bdI hy
      obtain ⟨v7, xv7, hy⟩ := gtI hy
      refine ixP' sl29 qi6 bi6 r r r r <| ldP (f := I) tk3 xv7 r r r r r <| mv r r r <| bn r r r r r <| ?_
      obtain ⟨i8, qi8, bi8, hy⟩ := bdI hy
      obtain ⟨v9, xv9, hy⟩ := gtI hy
      refine ixP' sl29 qi8 bi8 r r r r <| stP (f := I) ((w64 (v7 + v5))) tk3 xv9 r r r r r r <| dn <| at_bn <| reg1 2 r <| bn r r r r r <| mv r r r <| dn <| againI (n2, (w64 (v37_1 + 1)), (l2_1.set i8 (w64 (v7 + v5))), _, _) r hy (Nat.lt_succ_self _) (.k r r (.k r r (.k r (by simp) (.k r r (.k r r (.k r r .nil)))))) (.k r r (.k r r .nil))
     ·replace hy := ifF hy h6
      refine at_exit <| at_te <| at_te <| at_inBlock <| ?_
      replace hy := sj hy
      subst hy
      refine metI (l2_1, _, _) r hc1 (.k r r (.k r r (.k r r .nil))) (.k r r (.k r r .nil))
    ·rintro ⟨l2_2, g1_1, g2_1⟩ cl hy
     subst hk1
     change At _ cl (mk _ _) _
     refine reg 3 r <| mv r r r <| ?_
     obtain ⟨i10, qi10, bi10, hy⟩ := mkI hy
     refine mksP (f := (NL 1 I)) none 3 se30 qi10 bi10 r r r r r r <| asg r r r <| dn <| ?_
     obtain ⟨o3, hy, k3, hk3, hc3⟩ := bndK hy
     refine meetI (fun (p : (List (Option (List Int))) × Nat) => match p with | (l3_7, g3_3) => mk [(10, .own 3 g3_3 1 0 (l3_7).length false)] [(3, some (g3_3, .buf 1 (l3_7.map (NL 1 I))))]) (fun p => match p with | (l3_7, g3_3) => k3 l3_7 = some y) ?_ ?_
     ·skip
      refine reg 4 r <| fa fo32_2 r r r <| ld tk30 r r r r r r <| lnf (f := (SL 1 I)) slB30 r r r <| mv r r r <| dn <| at_block <| wk (T' := [(6, (I (a0.tokens.length : Int))), (7, .own 2 _ 1 0 (l2_2).length false), (10, .own 3 _ 1 0 ((List.replicate i10 (none : (Option (List Int))))).length false), (56, ((SL 1 (SL 1 I)) a0.next)), (57, (I (a0.next.length : Int))), (58, (I 0))]) (H' := [(2, some (_, .buf 1 (l2_2.map I))), (3, some (_, .buf 1 ((List.replicate i10 (none : (Option (List Int)))).map (NL 1 I))))]) (.k r r (.k r r (.k r r (.k r r (.k r r (.k r r .nil)))))) (.k r r (.k r r .nil)) <| loopI (fun (p : Nat × Int × (List (Option (List Int))) × Nat × Nat) => match p with | (n4, v58_6, l3_6, g2_4, g3_4) => mk [(6, (I (a0.tokens.length : Int))), (7, .own 2 g2_4 1 0 (l2_2).length false), (10, .own 3 g3_4 1 0 (l3_6).length false), (56, ((SL 1 (SL 1 I)) a0.next)), (57, (I (a0.next.length : Int))), (58, (I v58_6))] [(2, some (g2_4, .buf 1 (l2_2.map I))), (3, some (g3_4, .buf 1 (l3_6.map (NL 1 I))))]) (fun p => match p with | (n4, v58_6, l3_6, g2_4, g3_4) => p_sum_Build_L2 K a0 l2_2 n4 v58_6 l3_6 = some o3) (fun p => p.1) ?_ (K, 0, (List.replicate i10 (none : (Option (List Int)))), _, _) hy _
      rintro ⟨n4, v58_6, l3_6, g2_4, g3_4⟩ cl hy
      cases n4 with | zero => cases hy | succ n4 => ?_
      change At _ cl (mk _ _) _
      replace hy : p_sum_Build_L2 K a0 l2_2 (n4+1) v58_6 l3_6 = some o3 := hy
      rw [p_sum_Build_L2] at hy
      refine reg 1 r <| bn r r r r r <| dn <| at_seq <| cd r (fun h7 => ?_) (fun h7 => ?_)
      ·replace hy := ifT hy h7
       refine at_skip <| ?_
       obtain ⟨o5, hy, k5, hk5, hc5⟩ := bndK hy
       refine meetI (fun (p : (List (Option (List Int))) × Nat × Nat) => match p with | (l3_5, g2_5, g3_5) => mk [(6, (I (a0.tokens.length : Int))), (7, .own 2 g2_5 1 0 (l2_2).length false), (10, .own 3 g3_5 1 0 (l3_5).length false), (56, ((SL 1 (SL 1 I)) a0.next)), (57, (I (a0.next.length : Int))), (58, (I v58_6))] [(2, some (g2_5, .buf 1 (l2_2.map I))), (3, some (g3_5, .buf 1 (l3_5.map (NL 1 I))))]) (fun p => match p with | (l3_5, g2_5, g3_5) => k5 l3_5 = some o3) ?_ ?_
       ·skip
        refine at_block <| reg 5 r <| mv r r r <| ?_
        obtain ⟨i11, v12, qi11, xv12, hy⟩ := ixI hy
        refine fixP (f := (SL 1 I)) sl30 qi11 xv12 r r r r <| fld tk29 r r r r <| asg r r r <| asg r r r <| dn <| reg 3 r <| mv r r r <| lnf (f := I) slB29 r r r <| mv r r r <| dn <| ?_
        obtain ⟨i13, qi13, bi13, hy⟩ := bdI hy
        obtain ⟨v14, xv14, hy⟩ := gtI hy
        obtain ⟨nv14, hy⟩ := guI hy
        refine openR (f := I) (l := l3_6) 3 7003 i13 1 r (by rw [xv14, Option.isNone_iff_eq_none.1 nv14]) r <| at_block <| wk (T' := [(6, (I (a0.tokens.length : Int))), (7, .own 2 _ 1 0 (l2_2).length false), (10, .own 3 _ 1 0 (l3_6).length false), (11, (I v58_6)), (56, ((SL 1 (SL 1 I)) a0.next)), (57, (I (a0.next.length : Int))), (58, (I v58_6)), (63, ((SL 1 I) v12)), (64, (I (v12.length : Int))), (65, (I 0))]) (H' := [(2, some (_, .buf 1 (l2_2.map I))), (3, some (_, .buf 1 ((l3_6.map (NL 1 I)).set i13 (.own 7003 _ 1 0 ([]).length false)))), (7003, some (_, .buf 1 ([].map I)))]) (.k r r (.k r r (.k r r (.k r r (.k r r (.k r r (.k r r (.k r r (.k r r (.k r r .nil)))))))))) (.k r r (.k r r (.k r r .nil))) <| loopI (fun (p : Nat × (List Int) × Int × Int × (List Int) × Nat × Nat × Nat) => match p with | (n6, v63_4, v64_4, v65_4, l7003_4, g2_6, g3_6, g7003_6) => mk [(6, (I (a0.tokens.length : Int))), (7, .own 2 g2_6 1 0 (l2_2).length false), (10, .own 3 g3_6 1 0 (l3_6).length false), (11, (I v58_6)), (56, ((SL 1 (SL 1 I)) a0.next)), (57, (I (a0.next.length : Int))), (58, (I v58_6)), (63, ((SL 1 I) v63_4)), (64, (I v64_4)), (65, (I v65_4))] [(2, some (g2_6, .buf 1 (l2_2.map I))), (3, some (g3_6, .buf 1 ((l3_6.map (NL 1 I)).set i13 (.own 7003 g7003_6 1 0 (l7003_4).length false)))), (7003, some (g7003_6, .buf 1 (l7003_4.map I)))]) (fun p => match p with | (n6, v63_4, v64_4, v65_4, l7003_4, g2_6, g3_6, g7003_6) => p_sum_Build_L3 K l2_2 v58_6 a0 l3_6 i13 n6 v63_4 v64_4 v65_4 l7003_4 = some o5) (fun p => p.1) ?_ (K, v12, (v12.length : Int), 0, [], _, _, _) hy _
        rintro ⟨n6, v63_4, v64_4, v65_4, l7003_4, g2_6, g3_6, g7003_6⟩ cl hy
        cases n6 with | zero => cases hy | succ n6 => ?_
        change At _ cl (mk _ _) _
        replace hy : p_sum_Build_L3 K l2_2 v58_6 a0 l3_6 i13 (n6+1) v63_4 v64_4 v65_4 l7003_4 = some o5 := hy
        rw [p_sum_Build_L3] at hy
        refine reg 1 r <| bn r r r r r <| dn <| at_seq <| cd r (fun h11 => ?_) (fun h11 => ?_)
        ·replace hy := ifT hy h11
         refine at_skip <| at_seq <| at_block <| reg 3 r <| ?_
         obtain ⟨i15, v16, qi15, xv16, hy⟩ := ixI hy
         refine fixP (f := I) sl29 qi15 xv16 r r r r <| fld tk3 r r r r <| asg r r r <| dn <| regd mixed 10 r <| mv r r r <| mv r r r <| ?_
         obtain ⟨i17, qi17, bi17, hy⟩ := bdI hy
         obtain ⟨v18, xv18, hy⟩ := gtI hy
         refine ixP' sl29 qi17 bi17 r r r r <| ldP (f := I) tk3 xv18 r r r r r <| mv r r r <| mv r r r <| ?_
         obtain ⟨i19, qi19, bi19, hy⟩ := bdI hy
         obtain ⟨v20, xv20, hy⟩ := gtI hy
         refine ixP' sl29 qi19 bi19 r r r r <| ldP (f := I) tk3 xv20 r r r r r <| bn r r r r r <| asg r r r <| dn ⟨by kernel_rfl, ?_⟩
         obtain ⟨o7, hy, k7, hk7, hc7⟩ := bndK hy
         refine meetI (fun (p : Int × Nat × Nat × Nat) => match p with | (v15_3, g2_7, g3_7, g7003_7) => mk [(6, (I (a0.tokens.length : Int))), (7, .own 2 g2_7 1 0 (l2_2).length false), (10, .own 3 g3_7 1 0 (l3_6).length false), (11, (I v58_6)), (15, (I v15_3)), (56, ((SL 1 (SL 1 I)) a0.next)), (57, (I (a0.next.length : Int))), (58, (I v58_6)), (63, ((SL 1 I) v63_4)), (64, (I v64_4)), (65, (I v65_4))] [(2, some (g2_7, .buf 1 (l2_2.map I))), (3, some (g3_7, .buf 1 ((l3_6.map (NL 1 I)).set i13 (.own 7003 g7003_7 1 0 (l7003_4).length false)))), (7003, some (g7003_7, .buf 1 (l7003_4.map I)))]) (fun p => match p with | (v15_3, g2_7, g3_7, g7003_7) => k7 v15_3 = some o5) ?_ ?_
         ·skip
          refine reg 3 r <| mv r r r <| mv r r r <| bn r r r r r <| dn <| cd r (fun h13 => ?_) (fun h13 => ?_)
          ·replace hy := ifT hy h13
           refine reg1 7 r <| mv r r r <| mv r r r <| mv r r r <| ?_
           obtain ⟨i21, qi21, bi21, hy⟩ := bdI hy
           obtain ⟨v22, xv22, hy⟩ := gtI hy
           refine ixP' sl29 qi21 bi21 r r r r <| ldP (f := I) tk3 xv22 r r r r r <| bn r r r r r <| asg r r r <| dn <| ?_
           replace hy := sj hy
           subst hy
           refine metI ((w64 ((w64 (v18 - v20)) + v22)), _, _, _) r hc7 (.k r r (.k r r (.k r r (.k r r (.k r r (.k r r (.k r r (.k r r (.k r r (.k r r (.k r r .nil))))))))))) (.k r r (.k r r (.k r r .nil)))
          ·replace hy := ifF hy h13
           refine at_skip <| ?_
           replace hy := sj hy
           subst hy
           refine metI ((w64 (v18 - v20)), _, _, _) r hc7 (.k r r (.k r r (.k r r (.k r r (.k r r (.k r r (.k r r (.k r r (.k r r (.k r r (.k r r .nil))))))))))) (.k r r (.k r r (.k r r .nil)))
         ·rintro ⟨v15_3, g2_7, g3_7, g7003_7⟩ cl hy
          subst hk7
          change At _ cl (mk _ _) _
          refine reg1 11 r <| mv r r r <| mv r r r <| mv r r r <| mv r r r <| ixP' sl30 qi13 bi13 r r r r <| ldR (f := I) (l := l3_6) tk29 bi13 r r r r <| mv r r r <| bldsP I ([v15_3] : List Int) 4 se29 r r r r r r r <| ?_
          obtain ⟨k23a, k23b, hy⟩ := apI hy
          refine apoP (f := I) (l := l7003_4) (zs := [v15_3]) se29 k23a k23b r r r r r r <| ixP' sl30 qi13 bi13 r r r r <| stR (f := I) (l := l3_6) tk29 bi13 r r r r <| dn <| at_bn <| reg1 2 r <| bn r r r r r <| mv r r r <| dn <| againI (n6, v63_4, v64_4, (w64 (v65_4 + 1)), (l7003_4 ++ [v15_3]), _, _, _) r hy (Nat.lt_succ_self _) (.k r r (.k r r (.k r r (.k r r (.k r r (.k r r (.k r r (.k r r (.k r r (.k r r .nil)))))))))) (.k r r (.k r r (.k r r .nil)))
        ·replace hy := ifF hy h11
         refine at_exit <| at_te <| at_te <| at_inBlock <| at_bn <| closeR (f := I) (l := l3_6) (r := l7003_4) 3 7003 i13 r bi13 r pu_I r <| ?_
         replace hy := sj hy
         subst hy
         refine metI ((l3_6.set i13 (some l7003_4)), _, _) r hc5 (.k r r (.k r r (.k r (by simp) (.k r r (.k r r (.k r r .nil)))))) (.k r r (.k r r .nil))
       ·rintro ⟨l3_5, g2_5, g3_5⟩ cl hy
        subst hk5
        change At _ cl (mk _ _) _
        refine reg1 2 r <| bn r r r r r <| mv r r r <| dn <| againI (n4, (w64 (v58_6 + 1)), l3_5, _, _) r hy (Nat.lt_succ_self _) (.k r r (.k r r (.k r r (.k r r (.k r r (.k r r .nil)))))) (.k r r (.k r r .nil))
      ·replace hy := ifF hy h7
       refine at_exit <| at_te <| at_te <| at_inBlock <| ?_
       replace hy := sj hy
       subst hy
       refine metI (l3_6, _) r hc3 (.k r r .nil) (.k r r .nil)
     ·rintro ⟨l3_7, g3_3⟩ cl hy
      subst hk3
      change At _ cl (mk _ _) _
      refine reg 3 r <| mv r r r <| asg r r r <| asg r r r <| dn <| at_ret <| nslF (f := I) (l := l3_7) 3 r <| slotL 4 (m' := (l3_7.map fun o => o.getD []).length) (by simp) r <| frzP (f := (SL 1 I)) (l := (l3_7.map fun o => o.getD [])) 4 3 r r (pu_l 1 pu_I) <| ?_
      replace hy := sj hy
      subst hy
      exact outs (rs := [4, 5]) (res2 r) (by simp) (.inl r) (looks_of r) r (.cons ((pu_l 1 (pu_l 1 pu_I)) _) (.cons (pu_I _) (.nil)))
def p_pick_Mark_L1 (K : Nat) (a1 : (List Bool)) : Nat → Int → (List Int) → Option (List Int)
 | 0, _, _ => none
 | n+1, v14_1, l2_1 => (bif (decide (v14_1 < (a1.length : Int))) then (ixP a1 v14_1 fun v3 => (bif v3 then (bdP l2_1.length v14_1 fun i4 => gtP l2_1 i4 fun v5 => p_pick_Mark_L1 K a1 n (w64 (v14_1 + 1)) (l2_1.set i4 1)) else p_pick_Mark_L1 K a1 n (w64 (v14_1 + 1)) l2_1)) else some l2_1)
def p_pick_Mark (K : Nat) (a0 : Tw) (a1 : (List Bool)) : Option ((List (List Int)) × Int) :=
 (mkP 8 (a1.length : Int) fun i1 => ((p_pick_Mark_L1 K a1 K 0 (List.replicate i1 (0 : Int)) : Option (List Int)).bind fun l2_2 => ((p_sum_Build K a0 l2_2).bind fun r6 => some (r6.1, r6.2))))
theorem w_pick_Mark {K : Nat} {a0 : Tw} {a1 : (List Bool)} {y : ((List (List Int)) × Int)} (hy : p_pick_Mark K a0 a1 = some y) : Does PP GV 21 [] [(TwA a0), ((SL 1 B) a1)] [] [] (.tup [((SL 1 (SL 1 I)) y.1), (I y.2)]) := by
 unfold p_pick_Mark at hy
 refine does_of at21 r (le_ok r) <| ?_
 rintro ⟨_, base, w0, F⟩ rfl
 refine reg 3 r <| bx 1 r r r r <| asg r r r <| asg r r r <| dn <| reg 4 r <| mv r r r <| lnf (f := B) slB66 r r r <| ?_
 obtain ⟨i1, qi1, bi1, hy⟩ := mkI hy
 refine mksP (f := I) 0 2 se29 qi1 bi1 r r r r r r <| asg r r r <| dn <| ?_
 obtain ⟨o1, hy, k1, hk1, hc1⟩ := bndK hy
 refine meetI (fun (p : (List Int) × Nat × Nat) => match p with | (l2_2, g1_1, g2_1) => mk [(2, .ptr 1 g1_1 0 0), (6, .own 2 g2_1 1 0 (l2_2).length false)] [(1, some (g1_1, .buf 3 [.agg [((SL 1 I) a0.tokens), ((SL 1 I) a0.heights), ((SL 1 (SL 1 I)) a0.next)]])), (2, some (g2_1, .buf 1 (l2_2.map I)))]) (fun p => match p with | (l2_2, g1_1, g2_1) => k1 l2_2 = some y) ?_ ?_
 ·skip
  refine reg 3 r <| mv r r r <| lnf (f := B) slB66 r r r <| mv r r r <| dn <| at_block <| wk (T' := [(2, .ptr 1 _ 0 0), (6, .own 2 _ 1 0 ((List.replicate i1 (0 : Int))).length false), (12, ((SL 1 B) a1)), (13, (I (a1.length : Int))), (14, (I 0))]) (H' := [(1, some (_, .buf 3 [.agg [((SL 1 I) a0.tokens), ((SL 1 I) a0.heights), ((SL 1 (SL 1 I)) a0.next)]])), (2, some (_, .buf 1 ((List.replicate i1 (0 : Int)).map I)))]) (.k r r (.k r r (.k r r (.k r r (.k r r .nil))))) (.k r r (.k r r .nil)) <| loopI (fun (p : Nat × Int × (List Int) × Nat × Nat) => match p with | (n2, v14_1, l2_1, g1_2, g2_2) => mk [(2, .ptr 1 g1_2 0 0), (6, .own 2 g2_2 1 0 (l2_1).length false), (12, ((SL 1 B) a1)), (13, (I (a1.length : Int))), (14, (I v14_1))] [(1, some (g1_2, .buf 3 [.agg [((SL 1 I) a0.tokens), ((SL 1 I) a0.heights), ((SL 1 (SL 1 I)) a0.next)]])), (2, some (g2_2, .buf 1 (l2_1.map I)))]) (fun p => match p with | (n2, v14_1, l2_1, g1_2, g2_2) => p_pick_Mark_L1 K a1 n2 v14_1 l2_1 = some o1) (fun p => p.1) ?_ (K, 0, (List.replicate i1 (0 : Int)), _, _) hy _
  rintro ⟨n2, v14_1, l2_1, g1_2, g2_2⟩ cl hy
  cases n2 with | zero => cases hy | succ n2 => ?_
  change At _ cl (mk _ _) _
  replace hy : p_pick_Mark_L1 K a1 (n2+1) v14_1 l2_1 = some o1 := hy
  rw [p_pick_Mark_L1] at hy
  refine reg 1 r <| bn r r r r r <| dn <| at_seq <| cd r (fun h3 => ?_) (fun h3 => ?_)
  ·replace hy := ifT hy h3
   refine at_skip <| at_seq <| at_block <| reg 5 r <| mv r r r <| ?_
   obtain ⟨i2, v3, qi2, xv3, hy⟩ := ixI hy
   refine fixP (f := B) sl66 qi2 xv3 r r r r <| fld tk4 r r r r <| asg r r r <| asg r r r <| dn <| reg 1 r <| mv r r r <| dn <| cd r (fun h4 => ?_) (fun h4 => ?_)
   ·replace hy := ifT hy h4
    refine reg1 4 r <| mv r r r <| mv r r r <| ?_
    obtain ⟨i4, qi4, bi4, hy⟩ := bdI hy
    obtain ⟨v5, xv5, hy⟩ := gtI hy
    refine ixP' sl29 qi4 bi4 r r r r <| stP (f := I) (1) tk3 xv5 r r r r r r <| dn <| at_bn <| reg1 2 r <| bn r r r r r <| mv r r r <| dn <| againI (n2, (w64 (v14_1 + 1)), (l2_1.set i4 1), _, _) r hy (Nat.lt_succ_self _) (.k r r (.k r (by simp) (.k r r (.k r r (.k r r .nil))))) (.k r r (.k r r .nil))
   ·replace hy := ifF hy h4
    refine at_skip <| at_bn <| reg1 2 r <| bn r r r r r <| mv r r r <| dn <| againI (n2, (w64 (v14_1 + 1)), l2_1, _, _) r hy (Nat.lt_succ_self _) (.k r r (.k r r (.k r r (.k r r (.k r r .nil))))) (.k r r (.k r r .nil))
  ·replace hy := ifF hy h3
   refine at_exit <| at_te <| at_te <| at_inBlock <| ?_
   replace hy := sj hy
   subst hy
   refine metI (l2_1, _, _) r hc1 (.k r r (.k r r .nil)) (.k r r (.k r r .nil))
 ·rintro ⟨l2_2, g1_1, g2_1⟩ cl hy
  subst hk1
  change At _ cl (mk _ _) _
  refine frzP (f := I) (l := l2_2) 6 2 r r pu_I <| reg 7 r <| ldw tk32 r r r r r r <| mv r r r <| ?_
  obtain ⟨r6, qr6, hy⟩ := bndI hy
  refine clp (w_sum_Build qr6) ca44 r r (.cons (pu_Tw _) (.cons ((pu_l 1 pu_I) _) (.nil))) (.tup (.cons ((pu_l 1 (pu_l 1 pu_I)) _) (.cons (pu_I _) (.nil)))) r <| ext r r r r <| ext r r r r <| asg r r r <| asg r r r <| dn <| at_ret <| ?_
  replace hy := sj hy
  subst hy
  exact outs (rs := [4, 5]) (res2 r) (by simp) (.inl r) (looks_of r) r (.cons ((pu_l 1 (pu_l 1 pu_I)) _) (.cons (pu_I _) (.nil)))
end Go.Ar
namespace Go.Ar
open Go.RowKit
def p_seek_seen_L1 (K : Nat)  : Nat → (List Int) → Int → Int → (Mp Int Int) → Option ((List Int) × (Mp Int Int))
 | 0, _, _, _, _ => none
 | n+1, v52_1, v53_1, v54_1, m3_1 => (bif (decide (v54_1 < v53_1)) then (ixP v52_1 v54_1 fun v6 => p_seek_seen_L1 K  n v52_1 v53_1 (w64 (v54_1 + 1)) (m3_1.set v6 1)) else some (v52_1, m3_1))
def p_seek_seen_L3 (K : Nat)  : Nat → (List Int) → Int → Int → Int → Int → Bool → (Mp Int (List Ed)) → Option (Mp Int (List Ed))
 | 0, _, _, _, _, _, _, _ => none
 | n+1, v83_3, v84_3, v6_3, v6_3_1, v6_3_2, v6_3_3, m4_3 => (bif (decide (v84_3 < 2)) then (bdP 2 v84_3 fun i9 => gtP v83_3 i9 fun v10 => (rowP (m4_3.get? v10) (fun r11 => (apP 16 r11.length [(Ed.mk v6_3 v6_3_1)].length (p_seek_seen_L3 K  n v83_3 (w64 (v84_3 + 1)) v6_3 v6_3_1 v6_3_2 v6_3_3 (m4_3.set v10 (r11 ++ [(Ed.mk v6_3 v6_3_1)]))))) ((apP 16 0 [(Ed.mk v6_3 v6_3_1)].length (p_seek_seen_L3 K  n v83_3 (w64 (v84_3 + 1)) v6_3 v6_3_1 v6_3_2 v6_3_3 (m4_3.set v10 [(Ed.mk v6_3 v6_3_1)])))))) else some m4_3)
def p_seek_seen_L2 (K : Nat) (a0 : Gr) (a2 : Int) : Nat → Int → (Mp Int (List Ed)) → Option (Mp Int (List Ed))
 | 0, _, _ => none
 | n+1, v67_5, m4_5 => (bif (decide (v67_5 < (a0.ties.length : Int))) then (((ixP a0.ties v67_5 fun v8 => (bif v8.tree then some m4_5 else (bif (v8.level != a2) then some m4_5 else p_seek_seen_L3 K  K [v8.u, v8.v] 0 v8.u v8.v v8.level v8.tree m4_5))) : Option (Mp Int (List Ed))).bind fun m4_4 => p_seek_seen_L2 K a0 a2 n (w64 (v67_5 + 1)) m4_4) else some m4_5)
def p_seek_seen (K : Nat) (a0 : Gr) (a1 : Int) (a2 : Int) : Option ((Option Seek_tree_) × Int) :=
 ((p_level_Forest K a0 a2).bind fun r1 => (bif (r1.2 != 0) then some (none, r1.2) else (bif (decide (a1 < 0)) then some (none, 10) else (bif (decide (a1 ≥ a0.n)) then some (none, 10) else ((p_tour_Of K r1.1 a1).bind fun r2 => (ixP r1.1.rings r2 fun v4 => ((p_seek_seen_L1 K  K v4 (v4.length : Int) 0 (Mp.empty : (Mp Int Int)) : Option ((List Int) × (Mp Int Int))).bind fun (v5_2, m3_2) => ((p_seek_seen_L2 K a0 a2 K 0 (Mp.empty : (Mp Int (List Ed))) : Option (Mp Int (List Ed))).bind fun m4_6 => some ((some (Seek_tree_.mk a0.n v5_2 m3_2 m4_6)), 0)))))))))
theorem w_seek_seen {K : Nat} {a0 : Gr} {a1 : Int} {a2 : Int} {y : ((Option Seek_tree_) × Int)} (hy : p_seek_seen K a0 a1 a2 = some y) : Does PP GV 17 [] [(GrA a0), (I a1), (I a2)] [] [] (.tup [((PO Seek_tree_A) y.1), (I y.2)]) := by
 unfold p_seek_seen at hy
 refine does_of at17 r (le_ok r) <| ?_
 rintro ⟨_, base, w0, F⟩ rfl
 refine reg 3 r <| bx 1 r r r r <| asg r r r <| asg r r r <| dn <| reg 9 r <| ldw tk24 r r r r r r <| mv r r r <| ?_
 obtain ⟨r1, qr1, hy⟩ := bndI hy
 refine clp (w_level_Forest qr1) ca35 r r (.cons (pu_Gr _) (.cons (pu_I _) (.nil))) (.tup (.cons (pu_Fo _) (.cons (pu_I _) (.nil)))) r <| mv r r r <| ext r r r r <| ext r r r r <| rg_alloc (s := 2) (gd_of r) zc81 (elems_one (by rfl)) (lt_ok r) <| str tk81 r r r r r r r <| asg r r r <| dn <| at_seq <| at_block <| reg 3 r <| mv r r r <| bn r r r r r <| asg r r r <| dn <| cd r (fun h1 => ?_) (fun h1 => ?_)
 ·replace hy := ifT hy h1
  refine reg 3 r <| mv r r r <| asg r r r <| asg r r r <| dn <| at_ret <| ?_
  replace hy := sj hy
  subst hy
  exact outs (rs := [6, 7]) (res2 r) (by simp) (.inl r) (looks_of r) r (.cons ((pu_po pu_Seek_tree_) _) (.cons (pu_I _) (.nil)))
 ·replace hy := ifF hy h1
  refine reg 9 r <| mv r r r <| bn r r r r r <| mv r r r <| cas 30 r (fun h2 => ?_) (fun h2 => ?_)
  ·replace hy := ifT hy h2
   refine sk r r <| sk r r <| sk r r <| sk r r <| pkt r r r r r <| asg r r r <| dn <| cdt r <| reg 2 r <| asg r r r <| asg r r r <| dn <| at_ret <| ?_
   replace hy := sj hy
   subst hy
   exact outs (rs := [6, 7]) (res2 r) (by simp) (.inl r) (looks_of r) r (.cons ((pu_po pu_Seek_tree_) _) (.cons (pu_I _) (.nil)))
  ·replace hy := ifF hy h2
   refine mv r r r <| fa fo24_0 r r r <| ld tk3 r r r r r r <| bn r r r r r <| pkf r r r r r <| asg r r r <| dn <| cd r (fun h3 => ?_) (fun h3 => ?_)
   ·replace hy := ifT hy h3
    refine reg 2 r <| asg r r r <| asg r r r <| dn <| at_ret <| ?_
    replace hy := sj hy
    subst hy
    exact outs (rs := [6, 7]) (res2 r) (by simp) (.inl r) (looks_of r) r (.cons ((pu_po pu_Seek_tree_) _) (.cons (pu_I _) (.nil)))
   ·replace hy := ifF hy h3
    refine at_skip <| at_bn <| regd mixed 14 r <| fa fo24_0 r r r <| ld tk3 r r r r r r <| fa fo81_1 r r r <| ld tk30 r r r r r r <| ldw tk81 r r r r r r <| mv r r r <| ?_
    obtain ⟨r2, qr2, hy⟩ := bndI hy
    refine clp (w_tour_Of qr2) ca36 r r (.cons (pu_Fo _) (.cons (pu_I _) (.nil))) (.one (pu_I _)) r <| ?_
    obtain ⟨i3, v4, qi3, xv4, hy⟩ := ixI hy
    refine fixP (f := (SL 1 I)) sl30 qi3 xv4 r r r r <| fld tk29 r r r r <| mkM (κ := Int) (ν := Int) (Value.int .i64) I 3 r r <| mkR (α := Ed) 2 50 (fun _ => 0) 4 r r <| bld bd64 r r r r <| bx 5 r r r r <| asg r r r <| dn ⟨by kernel_rfl, ?_⟩
    obtain ⟨o1, hy, k1, hk1, hc1⟩ := bndK hy
    refine meetI (fun (p : (List Int) × (Mp Int Int) × Nat × Nat × Nat × Nat × (Nat → Nat)) => match p with | (v5_2, m3_2, g1_1, g3_1, g4_1, g5_1, G4_1) => mk [(2, (I a2)), (3, .ptr 1 g1_1 0 0), (10, .ptr 5 g5_1 0 0)] ([(1, some (g1_1, .buf 2 [.agg [(I a0.n), ((SL 4 TiA) a0.ties)]])), (3, some (g3_1, .map (encM (Value.int .i64) I m3_2))), (4, some (g4_1, .map (encM (Value.int .i64) (evR 2) (mG 50 (Mp.empty : (Mp Int (List Ed))) G4_1)))), (5, some (g5_1, .buf 4 [.agg [(I a0.n), ((SL 1 I) v5_2), .mp 3 g3_1, .mp 4 g4_1]]))] ++ rowsH EdA 2 50 (Mp.empty : (Mp Int (List Ed))) G4_1)) (fun p => match p with | (v5_2, m3_2, g1_1, g3_1, g4_1, g5_1, G4_1) => k1 (v5_2, m3_2) = some y) ?_ ?_
    ·skip
     refine reg 6 r <| mv r r r <| nck r r r <| fa fo64_1 r r r <| ld tk29 r r r r r r <| lnf (f := I) slB29 r r r <| mv r r r <| dn <| at_block <| wk (T' := [(2, (I a2)), (3, .ptr 1 _ 0 0), (10, .ptr 5 _ 0 0), (52, ((SL 1 I) v4)), (53, (I (v4.length : Int))), (54, (I 0))]) (H' := ([(1, some (_, .buf 2 [.agg [(I a0.n), ((SL 4 TiA) a0.ties)]])), (3, some (_, .map (encM (Value.int .i64) I (Mp.empty : (Mp Int Int))))), (4, some (_, .map (encM (Value.int .i64) (evR 2) (mG 50 (Mp.empty : (Mp Int (List Ed))) (fun _ => 0))))), (5, some (_, .buf 4 [.agg [(I a0.n), ((SL 1 I) v4), .mp 3 _, .mp 4 _]]))] ++ rowsH EdA 2 50 (Mp.empty : (Mp Int (List Ed))) (fun _ => 0))) (.k r r (.k r r (.k r r (.k r r (.k r r (.k r r .nil)))))) (.app (.k r r (.k r r (.k r r (.k r r .nil)))) (hooksRows fun i p hp => absurd hp (by simp [Mp.empty]))) <| loopI (fun (p : Nat × (List Int) × Int × Int × (Mp Int Int) × Nat × Nat × Nat × Nat × (Nat → Nat)) => match p with | (n2, v52_1, v53_1, v54_1, m3_1, g1_2, g3_2, g4_2, g5_2, G4_2) => mk [(2, (I a2)), (3, .ptr 1 g1_2 0 0), (10, .ptr 5 g5_2 0 0), (52, ((SL 1 I) v52_1)), (53, (I v53_1)), (54, (I v54_1))] ([(1, some (g1_2, .buf 2 [.agg [(I a0.n), ((SL 4 TiA) a0.ties)]])), (3, some (g3_2, .map (encM (Value.int .i64) I m3_1))), (4, some (g4_2, .map (encM (Value.int .i64) (evR 2) (mG 50 (Mp.empty : (Mp Int (List Ed))) G4_2)))), (5, some (g5_2, .buf 4 [.agg [(I a0.n), ((SL 1 I) v52_1), .mp 3 g3_2, .mp 4 g4_2]]))] ++ rowsH EdA 2 50 (Mp.empty : (Mp Int (List Ed))) G4_2)) (fun p => match p with | (n2, v52_1, v53_1, v54_1, m3_1, g1_2, g3_2, g4_2, g5_2, G4_2) => p_seek_seen_L1 K  n2 v52_1 v53_1 v54_1 m3_1 = some o1) (fun p => p.1) ?_ (K, v4, (v4.length : Int), 0, (Mp.empty : (Mp Int Int)), _, _, _, _, _) hy _
     rintro ⟨n2, v52_1, v53_1, v54_1, m3_1, g1_2, g3_2, g4_2, g5_2, G4_2⟩ cl hy
     cases n2 with | zero => cases hy | succ n2 => ?_
     change At _ cl (mk _ _) _
     replace hy : p_seek_seen_L1 K  (n2+1) v52_1 v53_1 v54_1 m3_1 = some o1 := hy
     rw [p_seek_seen_L1] at hy
     refine reg 1 r <| bn r r r r r <| dn <| at_seq <| cd r (fun h6 => ?_) (fun h6 => ?_)
     ·replace hy := ifT hy h6
      refine at_skip <| at_seq <| at_block <| reg 3 r <| ?_
      obtain ⟨i5, v6, qi5, xv6, hy⟩ := ixI hy
      refine fixP (f := I) sl29 qi5 xv6 r r r r <| fld tk3 r r r r <| asg r r r <| dn <| reg1 6 r <| mv r r r <| nck r r r <| fa fo64_2 r r r <| ld tk61 r r r r r r <| mv r r r <| upM (ev := I) (m := m3_1) (kInt ui3) mt61 (v := 1) (Option.some_ne_none _) r r r r r r <| dn <| at_bn <| reg1 2 r <| bn r r r r r <| mv r r r <| dn <| againI (n2, v52_1, v53_1, (w64 (v54_1 + 1)), (m3_1.set v6 1), _, _, _, _, _) r hy (Nat.lt_succ_self _) (.k r r (.k r r (.k r r (.k r r (.k r r (.k r r .nil)))))) (.app (.k r r (.k r r (.k r r (.k r r .nil)))) (hooksRows fun i p hp => absurd hp (by simp [Mp.empty])))
     ·replace hy := ifF hy h6
      refine at_exit <| at_te <| at_te <| at_inBlock <| ?_
      replace hy := sj hy
      subst hy
      refine metI (v52_1, m3_1, _, _, _, _, _) r hc1 (.k r r (.k r r (.k r r .nil))) (.app (.k r r (.k r r (.k r r (.k r r .nil)))) (hooksRows fun i p hp => absurd hp (by simp [Mp.empty])))
    ·rintro ⟨v5_2, m3_2, g1_1, g3_1, g4_1, g5_1, G4_1⟩ cl hy
     subst hk1
     change At _ cl (mk _ _) _
     obtain ⟨o3, hy, k3, hk3, hc3⟩ := bndK hy
     refine meetI (fun (p : (Mp Int (List Ed)) × Nat × Nat × Nat × (Nat → Nat)) => match p with | (m4_6, g3_3, g4_3, g5_3, G4_3) => mk [(10, .ptr 5 g5_3 0 0)] ([(3, some (g3_3, .map (encM (Value.int .i64) I m3_2))), (4, some (g4_3, .map (encM (Value.int .i64) (evR 2) (mG 50 m4_6 G4_3)))), (5, some (g5_3, .buf 4 [.agg [(I a0.n), ((SL 1 I) v5_2), .mp 3 g3_3, .mp 4 g4_3]]))] ++ rowsH EdA 2 50 m4_6 G4_3)) (fun p => match p with | (m4_6, g3_3, g4_3, g5_3, G4_3) => k3 m4_6 = some y) ?_ ?_
     ·skip
      refine reg 4 r <| fa fo24_1 r r r <| ld tk22 r r r r r r <| lnf (f := TiA) slB22 r r r <| mv r r r <| dn <| at_block <| wk (T' := [(2, (I a2)), (10, .ptr 5 _ 0 0), (65, ((SL 4 TiA) a0.ties)), (66, (I (a0.ties.length : Int))), (67, (I 0))]) (H' := ([(3, some (_, .map (encM (Value.int .i64) I m3_2))), (4, some (_, .map (encM (Value.int .i64) (evR 2) (mG 50 (Mp.empty : (Mp Int (List Ed))) G4_1)))), (5, some (_, .buf 4 [.agg [(I a0.n), ((SL 1 I) v5_2), .mp 3 _, .mp 4 _]]))] ++ rowsH EdA 2 50 (Mp.empty : (Mp Int (List Ed))) G4_1)) (.k r r (.k r r (.k r r (.k r r (.k r r .nil))))) (.app (.k r r (.k r r (.k r r .nil))) (hooksRows fun i p hp => absurd hp (by simp [Mp.empty]))) <| loopI (fun (p : Nat × Int × (Mp Int (List Ed)) × Nat × Nat × Nat × (Nat → Nat)) => match p with | (n4, v67_5, m4_5, g3_4, g4_4, g5_4, G4_4) => mk [(2, (I a2)), (10, .ptr 5 g5_4 0 0), (65, ((SL 4 TiA) a0.ties)), (66, (I (a0.ties.length : Int))), (67, (I v67_5))] ([(3, some (g3_4, .map (encM (Value.int .i64) I m3_2))), (4, some (g4_4, .map (encM (Value.int .i64) (evR 2) (mG 50 m4_5 G4_4)))), (5, some (g5_4, .buf 4 [.agg [(I a0.n), ((SL 1 I) v5_2), .mp 3 g3_4, .mp 4 g4_4]]))] ++ rowsH EdA 2 50 m4_5 G4_4)) (fun p => match p with | (n4, v67_5, m4_5, g3_4, g4_4, g5_4, G4_4) => p_seek_seen_L2 K a0 a2 n4 v67_5 m4_5 = some o3) (fun p => p.1) ?_ (K, 0, (Mp.empty : (Mp Int (List Ed))), _, _, _, _) hy _
      rintro ⟨n4, v67_5, m4_5, g3_4, g4_4, g5_4, G4_4⟩ cl hy
      cases n4 with | zero => cases hy | succ n4 => ?_
      change At _ cl (mk _ _) _
      replace hy : p_seek_seen_L2 K a0 a2 (n4+1) v67_5 m4_5 = some o3 := hy
      rw [p_seek_seen_L2] at hy
      refine reg 1 r <| bn r r r r r <| dn <| at_seq <| cd r (fun h7 => ?_) (fun h7 => ?_)
      ·replace hy := ifT hy h7
       refine at_skip <| ?_
       obtain ⟨o5, hy, k5, hk5, hc5⟩ := bndK hy
       refine meetI (fun (p : (Mp Int (List Ed)) × Nat × Nat × Nat × (Nat → Nat)) => match p with | (m4_4, g3_5, g4_5, g5_5, G4_5) => mk [(2, (I a2)), (10, .ptr 5 g5_5 0 0), (65, ((SL 4 TiA) a0.ties)), (66, (I (a0.ties.length : Int))), (67, (I v67_5))] ([(3, some (g3_5, .map (encM (Value.int .i64) I m3_2))), (4, some (g4_5, .map (encM (Value.int .i64) (evR 2) (mG 50 m4_4 G4_5)))), (5, some (g5_5, .buf 4 [.agg [(I a0.n), ((SL 1 I) v5_2), .mp 3 g3_5, .mp 4 g4_5]]))] ++ rowsH EdA 2 50 m4_4 G4_5)) (fun p => match p with | (m4_4, g3_5, g4_5, g5_5, G4_5) => k5 m4_4 = some o3) ?_ ?_
       ·skip
        refine at_block <| reg 4 r <| ?_
        obtain ⟨i7, v8, qi7, xv8, hy⟩ := ixI hy
        refine fixP (f := TiA) sl22 qi7 xv8 r r r r <| fldw tk45 r r r r <| rg_alloc (s := 6) (gd_of r) zc45 (elems_one (by rfl)) (lt_ok r) <| str tk45 r r r r r r r <| dn <| at_seq <| reg 8 r <| fa fo45_3 r r r <| ld tk4 r r r r r r <| mv r r r <| cas 73 r (fun h9 => ?_) (fun h9 => ?_)
        ·replace hy := ifT hy h9
         refine sk r r <| sk r r <| sk r r <| sk r r <| pkt r r r r r <| dn <| cdt r <| at_exit <| at_te <| at_inBlock <| ?_
         replace hy := sj hy
         subst hy
         refine metI (m4_5, _, _, _, _) r hc5 (.k r r (.k r r (.k r r (.k r r (.k r r .nil))))) (.app (.k r r (.k r r (.k r r .nil))) (hooksRows fun i p hp => by simp [List.lookup, rows_look hp]))
        ·replace hy := ifF hy h9
         refine fa fo45_2 r r r <| ld tk3 r r r r r r <| mv r r r <| bn r r r r r <| pkf r r r r r <| dn <| cd r (fun h10 => ?_) (fun h10 => ?_)
         ·replace hy := ifT hy h10
          refine at_exit <| at_te <| at_inBlock <| ?_
          replace hy := sj hy
          subst hy
          refine metI (m4_5, _, _, _, _) r hc5 (.k r r (.k r r (.k r r (.k r r (.k r r .nil))))) (.app (.k r r (.k r r (.k r r .nil))) (hooksRows fun i p hp => by simp [List.lookup, rows_look hp]))
         ·replace hy := ifF hy h10
          refine at_skip <| reg 6 r <| fa fo45_0 r r r <| ld tk3 r r r r r r <| fa fo45_1 r r r <| ld tk3 r r r r r r <| bld bd25 r r r r <| mv r r r <| dn <| at_block <| wk (T' := [(2, (I a2)), (10, .ptr 5 _ 0 0), (14, .ptr 6 _ 0 0), (65, ((SL 4 TiA) a0.ties)), (66, (I (a0.ties.length : Int))), (67, (I v67_5)), (83, ((AR I) [v8.u, v8.v])), (84, (I 0))]) (H' := ([(3, some (_, .map (encM (Value.int .i64) I m3_2))), (4, some (_, .map (encM (Value.int .i64) (evR 2) (mG 50 m4_5 G4_4)))), (5, some (_, .buf 4 [.agg [(I a0.n), ((SL 1 I) v5_2), .mp 3 _, .mp 4 _]])), (6, some (_, .buf 4 [.agg [(I v8.u), (I v8.v), (I v8.level), (B v8.tree)]]))] ++ rowsH EdA 2 50 m4_5 G4_4)) (.k r r (.k r r (.k r r (.k r r (.k r r (.k r r (.k r r (.k r r .nil)))))))) (.app (.k r r (.k r r (.k r r (.k r r .nil)))) (hooksRows fun i p hp => by simp [List.lookup, rows_look hp])) <| loopI (fun (p : Nat × (List Int) × Int × Int × Int × Int × Bool × (Mp Int (List Ed)) × Nat × Nat × Nat × Nat × (Nat → Nat)) => match p with | (n6, v83_3, v84_3, v6_3, v6_3_1, v6_3_2, v6_3_3, m4_3, g3_6, g4_6, g5_6, g6_6, G4_6) => mk [(2, (I a2)), (10, .ptr 5 g5_6 0 0), (14, .ptr 6 g6_6 0 0), (65, ((SL 4 TiA) a0.ties)), (66, (I (a0.ties.length : Int))), (67, (I v67_5)), (83, ((AR I) v83_3)), (84, (I v84_3))] ([(3, some (g3_6, .map (encM (Value.int .i64) I m3_2))), (4, some (g4_6, .map (encM (Value.int .i64) (evR 2) (mG 50 m4_3 G4_6)))), (5, some (g5_6, .buf 4 [.agg [(I a0.n), ((SL 1 I) v5_2), .mp 3 g3_6, .mp 4 g4_6]])), (6, some (g6_6, .buf 4 [.agg [(I v6_3), (I v6_3_1), (I v6_3_2), (B v6_3_3)]]))] ++ rowsH EdA 2 50 m4_3 G4_6)) (fun p => match p with | (n6, v83_3, v84_3, v6_3, v6_3_1, v6_3_2, v6_3_3, m4_3, g3_6, g4_6, g5_6, g6_6, G4_6) => p_seek_seen_L3 K  n6 v83_3 v84_3 v6_3 v6_3_1 v6_3_2 v6_3_3 m4_3 = some o5) (fun p => p.1) ?_ (K, [v8.u, v8.v], 0, v8.u, v8.v, v8.level, v8.tree, m4_5, _, _, _, _, _) hy _
          rintro ⟨n6, v83_3, v84_3, v6_3, v6_3_1, v6_3_2, v6_3_3, m4_3, g3_6, g4_6, g5_6, g6_6, G4_6⟩ cl hy
          cases n6 with | zero => cases hy | succ n6 => ?_
          change At _ cl (mk _ _) _
          replace hy : p_seek_seen_L3 K  (n6+1) v83_3 v84_3 v6_3 v6_3_1 v6_3_2 v6_3_3 m4_3 = some o5 := hy
          rw [p_seek_seen_L3] at hy
          refine reg 1 r <| bn r r r r r <| dn <| at_seq <| cd r (fun h12 => ?_) (fun h12 => ?_)
          ·replace hy := ifT hy h12
           refine at_skip <| at_seq <| at_block <| reg 2 r <| ?_
           obtain ⟨i9, qi9, bi9, hy⟩ := bdI hy
           obtain ⟨v10, xv10, hy⟩ := gtI hy
           refine ixV (f := I) ar25 tk3 qi9 bi9 xv10 r r r r r <| asg r r r <| dn <| regd1 mixed 19 r <| mv r r r <| nck r r r <| fa fo64_3 r r r <| ld tk62 r r r r r r <| mv r r r <| mv r r r <| nck r r r <| fa fo64_3 r r r <| ld tk62 r r r r r r <| mv r r r <| ?_
           rcases rowI hy with ⟨r11, xr11, hy⟩ | ⟨xr11, hy⟩
           ·skip
            refine lkRS (kInt ui3) mt62 zo41 xr11 r r r r r r <| fa fo45_0 r r r <| ld tk3 r r r r r r <| fa fo45_1 r r r <| ld tk3 r r r r r r <| bld bd47 r r r r <| bldsP EdA ([(Ed.mk v6_3 v6_3_1)] : List Ed) 7 se41 r r r r r r r <| ?_
            obtain ⟨k12a, k12b, hy⟩ := apI hy
            refine apoP (s := (m4_3.idx v10 + 50)) (f := EdA) (l := r11) (zs := [(Ed.mk v6_3 v6_3_1)]) se41 k12a k12b r r r (by simp [List.lookup, rows_look (Mp.get_idx xr11)]) r r <| upR (kInt ui3) mt62 r r r r r r <| dn ⟨by kernel_rfl, ?_⟩
            refine at_bn <| reg1 2 r <| bn r r r r r <| mv r r r <| dn <| againI (n6, v83_3, (w64 (v84_3 + 1)), v6_3, v6_3_1, v6_3_2, v6_3_3, (m4_3.set v10 (r11 ++ [(Ed.mk v6_3 v6_3_1)])), _, _, _, _, _) r hy (Nat.lt_succ_self _) (.k r r (.k r r (.k r r (.k r r (.k r r (.k r r (.k r r (.k r r .nil)))))))) (.app (.k r r (.k r (mG_ob _ _ _) (.k r r (.k r r .nil)))) (rowsUpd (by simp [List.lookup]) (fun i p hi hp => by simp [List.lookup, beq_false_of_ne hi, rows_look hp])))
           ·skip
            refine lkRN (kInt ui3) mt62 zo41 xr11 r r r r r r <| fa fo45_0 r r r <| ld tk3 r r r r r r <| fa fo45_1 r r r <| ld tk3 r r r r r r <| bld bd47 r r r r <| bldsP EdA ([(Ed.mk v6_3 v6_3_1)] : List Ed) 8 se41 r r r r r r r <| ?_
            obtain ⟨k13a, k13b, hy⟩ := apI hy
            refine apN (f := EdA) (zs := [(Ed.mk v6_3 v6_3_1)]) (m4_3.idx v10 + 50) se41 (Nat.succ_pos _) (by simpa using k13a) (by simpa using k13b) r r r r r <| upR (kInt ui3) mt62 r r r r r r <| dn ⟨by kernel_rfl, ?_⟩
            refine at_bn <| reg1 2 r <| bn r r r r r <| mv r r r <| dn <| againI (n6, v83_3, (w64 (v84_3 + 1)), v6_3, v6_3_1, v6_3_2, v6_3_3, (m4_3.set v10 [(Ed.mk v6_3 v6_3_1)]), _, _, _, _, _) r hy (Nat.lt_succ_self _) (.k r r (.k r r (.k r r (.k r r (.k r r (.k r r (.k r r (.k r r .nil)))))))) (.app (.k r r (.k r (mG_ob _ _ _) (.k r r (.k r r .nil)))) (rowsUpd (by simp [List.lookup]) (fun i p hi hp => by simp [List.lookup, beq_false_of_ne hi, rows_look hp])))
          ·replace hy := ifF hy h12
           refine at_exit <| at_te <| at_te <| at_inBlock <| at_bn <| ?_
           replace hy := sj hy
           subst hy
           refine metI (m4_3, _, _, _, _) r hc5 (.k r r (.k r r (.k r r (.k r r (.k r r .nil))))) (.app (.k r r (.k r r (.k r r .nil))) (hooksRows fun i p hp => by simp [List.lookup, rows_look hp]))
       ·rintro ⟨m4_4, g3_5, g4_5, g5_5, G4_5⟩ cl hy
        subst hk5
        change At _ cl (mk _ _) _
        refine reg1 2 r <| bn r r r r r <| mv r r r <| dn <| againI (n4, (w64 (v67_5 + 1)), m4_4, _, _, _, _) r hy (Nat.lt_succ_self _) (.k r r (.k r r (.k r r (.k r r (.k r r .nil))))) (.app (.k r r (.k r r (.k r r .nil))) (hooksRows fun i p hp => by simp [List.lookup, rows_look hp]))
      ·replace hy := ifF hy h7
       refine at_exit <| at_te <| at_te <| at_inBlock <| ?_
       replace hy := sj hy
       subst hy
       refine metI (m4_5, _, _, _, _) r hc3 (.k r r .nil) (.app (.k r r (.k r r (.k r r .nil))) (hooksRows fun i p hp => by simp [List.lookup, rows_look hp]))
     ·rintro ⟨m4_6, g3_3, g4_3, g5_3, G4_3⟩ cl hy
      subst hk3
      change At _ cl (mk _ _) _
      refine reg 3 r <| mv r r r <| asg r r r <| asg r r r <| dn <| at_ret <| frzT (f := EdA) (ev := I) (m1 := m3_2) (m2 := m4_6) (G := G4_3) (R := 50) 6 5 3 4 [(I a0.n), ((SL 1 I) v5_2)] r r r r (fun i p hp => by simp [List.lookup, rows_look hp]) (PuL.all (.cons (pu_I _) (.cons ((pu_l 1 pu_I) _) (.nil)))) pu_Ed pu_I (fun _ => ?_)
      replace hy := sj hy
      subst hy
      exact outs (rs := [6, 7]) (res2 r) (by simp) (.inl r) (looks_of r) r (.cons ((pu_po pu_Seek_tree_) _) (.cons (pu_I _) (.nil)))
def p_seek_Tower_L1 (K : Nat)  : Nat → Seek_tree_ → (List Int) → Int → Int → (List Int) → (List Int) → (List (List Int)) → (List Bool) → Option ((List Int) × (List Int) × (List (List Int)) × (List Bool))
 | 0, _, _, _, _, _, _, _, _ => none
 | n+1, v11_1, v43_1, v44_1, v45_1, v2_1, v2_1_1, v2_1_2, l1012_1 => (bif (decide (v45_1 < v44_1)) then (ixP v43_1 v45_1 fun v6 => ((p_seek_tree_marked K v11_1 v6).bind fun r7 => (apP 1 l1012_1.length [r7].length (p_seek_Tower_L1 K  n v11_1 v43_1 v44_1 (w64 (v45_1 + 1)) v2_1 v2_1_1 v2_1_2 (l1012_1 ++ [r7]))))) else some (v2_1, v2_1_1, v2_1_2, l1012_1))
def p_seek_Tower (K : Nat) (a0 : Gr) (a1 : Int) (a2 : Int) (a3 : (List Int)) : Option (Tw × (List (List Int)) × Int) :=
 ((p_seek_seen K a0 a1 a2).bind fun r1 => (bif (r1.2 != 0) then some ((Tw.mk [] [] []), [], r1.2) else (r1.1.bind fun v2 => ((p_tower_Heights K v2.tokens a3).bind fun r3 => ((p_tower_Build K v2.tokens r3).bind fun r4 => ((p_seek_Tower_L1 K  K v2 v2.tokens (v2.tokens.length : Int) 0 r4.1.tokens r4.1.heights r4.1.next [] : Option ((List Int) × (List Int) × (List (List Int)) × (List Bool))).bind fun (v2_2, v2_2_1, v2_2_2, l1012_2) => ((p_pick_Mark K (Tw.mk v2_2 v2_2_1 v2_2_2) l1012_2).bind fun r9 => some ((Tw.mk (Tw.mk v2_2 v2_2_1 v2_2_2).tokens (Tw.mk v2_2 v2_2_1 v2_2_2).heights (Tw.mk v2_2 v2_2_1 v2_2_2).next), r9.1, r9.2))))))))
theorem w_seek_Tower {K : Nat} {a0 : Gr} {a1 : Int} {a2 : Int} {a3 : (List Int)} {y : (Tw × (List (List Int)) × Int)} (hy : p_seek_Tower K a0 a1 a2 a3 = some y) : Does PP GV 7 [] [(GrA a0), (I a1), (I a2), ((SL 1 (J .u32)) a3)] [] [] (.tup [(TwA y.1), ((SL 1 (SL 1 I)) y.2.1), (I y.2.2)]) := by
 unfold p_seek_Tower at hy
 refine does_of at7 r (le_ok r) <| ?_
 rintro ⟨_, base, w0, F⟩ rfl
 refine reg 4 r <| bx 1 r r r r <| rg_alloc (s := 2) (gd_of r) zc32 (elems_one (by rfl)) (lt_ok r) <| asg r r r <| asg r r r <| dn <| reg 9 r <| ldw tk24 r r r r r r <| mv r r r <| mv r r r <| ?_
 obtain ⟨r1, qr1, hy⟩ := bndI hy
 refine clp (w_seek_seen qr1) ca17 r r (.cons (pu_Gr _) (.cons (pu_I _) (.cons (pu_I _) (.nil)))) (.tup (.cons ((pu_po pu_Seek_tree_) _) (.cons (pu_I _) (.nil)))) r <| mv r r r <| ext r r r r <| ext r r r r <| asg r r r <| asg r r r <| dn <| at_seq <| reg 2 r <| mv r r r <| bn r r r r r <| dn <| cd r (fun h1 => ?_) (fun h1 => ?_)
 ·replace hy := ifT hy h1
  refine reg 5 r <| bld bd32 r r r r <| mv r r r <| str tk32 r r r r r r r <| asg r r r <| asg r r r <| dn <| at_ret <| atnilP ((SL 1 I)) 9 1 r <| cellN I 2 0 1 r r <| cellN I 2 1 1 r r <| cellN (SL 1 I) 2 2 1 r r <| ?_
  replace hy := sj hy
  subst hy
  exact endZ [] (rs := [_, _, _]) r (by simp) (.inl r) (.cell _ _ _ _ _ _ _ _ _ _ _ _ _ r r r tk32 r (.tmp _ _ _ _ r (.tmp _ _ _ _ r .nil))) (by simp) (PuL.rn (xs := [(TwA (Tw.mk [] [] [])), ((SL 1 (SL 1 I)) []), (I r1.2)]) (.cons (pu_Tw _) (.cons ((pu_l 1 (pu_l 1 pu_I)) _) (.cons (pu_I _) (.nil)))))
 ·replace hy := ifF hy h1
  refine at_skip <| regd mixed 15 r <| mv r r r <| ?_
  obtain ⟨v2, xv2, hy⟩ := bndI hy
  refine teq 11 (y := FP Seek_tree_A v2) r (by rw [xv2]) <| teq 20 (y := FP Seek_tree_A v2) r (by rw [xv2]) <| teq 27 (y := FP Seek_tree_A v2) r (by rw [xv2]) <| fnck r r r <| ffa fo64_1 r r r <| fld tk29 r r r r <| mv r r r <| fnck r r r <| ffa fo64_1 r r r <| fld tk29 r r r r <| mv r r r <| ?_
  obtain ⟨r3, qr3, hy⟩ := bndI hy
  refine clp (w_tower_Heights qr3) ca19 r r (.cons ((pu_l 1 pu_I) _) (.cons ((pu_l 1 (pu_J _)) _) (.nil))) (.one ((pu_l 1 pu_I) _)) r <| ?_
  obtain ⟨r4, qr4, hy⟩ := bndI hy
  refine clp (w_tower_Build qr4) ca18 r r (.cons ((pu_l 1 pu_I) _) (.cons ((pu_l 1 pu_I) _) (.nil))) (.tup (.cons (pu_Tw _) (.cons (pu_I _) (.nil)))) r <| mv r r r <| ext r r r r <| ext r r r r <| str tk32 r r r r r r r <| dn ⟨by kernel_rfl, ?_⟩
  refine reg 1 r <| asg r r r <| dn <| ?_
  obtain ⟨o1, hy, k1, hk1, hc1⟩ := bndK hy
  refine meetI (fun (p : (List Int) × (List Int) × (List (List Int)) × (List Bool) × Nat × Nat) => match p with | (v2_2, v2_2_1, v2_2_2, l1012_2, g2_1, g1012_1) => mk [(8, .ptr 2 g2_1 0 0), (12, .own 1012 g1012_1 1 0 (l1012_2).length false)] [(2, some (g2_1, .buf 3 [.agg [((SL 1 I) v2_2), ((SL 1 I) v2_2_1), ((SL 1 (SL 1 I)) v2_2_2)]])), (1012, some (g1012_1, .buf 1 (l1012_2.map B)))]) (fun p => match p with | (v2_2, v2_2_1, v2_2_2, l1012_2, g2_1, g1012_1) => k1 (v2_2, v2_2_1, v2_2_2, l1012_2) = some y) ?_ ?_
  ·skip
   refine reg 6 r <| mv r r r <| fnck r r r <| ffa fo64_1 r r r <| fld tk29 r r r r <| lnf (f := I) slB29 r r r <| mv r r r <| dn <| at_block <| niloP (B) 12 1012 1 r <| wk (T' := [(8, .ptr 2 _ 0 0), (11, ((FP Seek_tree_A) v2)), (12, .own 1012 _ 1 0 ([]).length false), (43, ((SL 1 I) v2.tokens)), (44, (I (v2.tokens.length : Int))), (45, (I 0))]) (H' := [(2, some (_, .buf 3 [.agg [((SL 1 I) r4.1.tokens), ((SL 1 I) r4.1.heights), ((SL 1 (SL 1 I)) r4.1.next)]])), (1012, some (_, .buf 1 ([].map B)))]) (.k r r (.k r r (.k r r (.k r r (.k r r (.k r r .nil)))))) (.k r r (.k r r .nil)) <| loopI (fun (p : Nat × Seek_tree_ × (List Int) × Int × Int × (List Int) × (List Int) × (List (List Int)) × (List Bool) × Nat × Nat) => match p with | (n2, v11_1, v43_1, v44_1, v45_1, v2_1, v2_1_1, v2_1_2, l1012_1, g2_2, g1012_2) => mk [(8, .ptr 2 g2_2 0 0), (11, ((FP Seek_tree_A) v11_1)), (12, .own 1012 g1012_2 1 0 (l1012_1).length false), (43, ((SL 1 I) v43_1)), (44, (I v44_1)), (45, (I v45_1))] [(2, some (g2_2, .buf 3 [.agg [((SL 1 I) v2_1), ((SL 1 I) v2_1_1), ((SL 1 (SL 1 I)) v2_1_2)]])), (1012, some (g1012_2, .buf 1 (l1012_1.map B)))]) (fun p => match p with | (n2, v11_1, v43_1, v44_1, v45_1, v2_1, v2_1_1, v2_1_2, l1012_1, g2_2, g1012_2) => p_seek_Tower_L1 K  n2 v11_1 v43_1 v44_1 v45_1 v2_1 v2_1_1 v2_1_2 l1012_1 = some o1) (fun p => p.1) ?_ (K, v2, v2.tokens, (v2.tokens.length : Int), 0, r4.1.tokens, r4.1.heights, r4.1.next, [], _, _) hy _
   rintro ⟨n2, v11_1, v43_1, v44_1, v45_1, v2_1, v2_1_1, v2_1_2, l1012_1, g2_2, g1012_2⟩ cl hy
   cases n2 with | zero => cases hy | succ n2 => ?_
   change At _ cl (mk _ _) _
   replace hy : p_seek_Tower_L1 K  (n2+1) v11_1 v43_1 v44_1 v45_1 v2_1 v2_1_1 v2_1_2 l1012_1 = some o1 := hy
   rw [p_seek_Tower_L1] at hy
   refine reg 1 r <| bn r r r r r <| dn <| at_seq <| cd r (fun h4 => ?_) (fun h4 => ?_)
   ·replace hy := ifT hy h4
    refine at_skip <| at_seq <| at_block <| reg 3 r <| ?_
    obtain ⟨i5, v6, qi5, xv6, hy⟩ := ixI hy
    refine fixP (f := I) sl29 qi5 xv6 r r r r <| fld tk3 r r r r <| asg r r r <| dn <| reg1 7 r <| mv r r r <| mv r r r <| mv r r r <| ?_
    obtain ⟨r7, qr7, hy⟩ := bndI hy
    refine clp (w_seek_tree_marked qr7) ca20 r r (.cons ((pu_fp pu_Seek_tree_) _) (.cons (pu_I _) (.nil))) (.one (pu_B _)) r <| bldsP B ([r7] : List Bool) 3 se66 r r r r r r r <| ?_
    obtain ⟨k8a, k8b, hy⟩ := apI hy
    refine apoP (f := B) (l := l1012_1) (zs := [r7]) se66 k8a k8b r r r r r r <| asg r r r <| dn <| at_bn <| reg1 2 r <| bn r r r r r <| mv r r r <| dn <| againI (n2, v11_1, v43_1, v44_1, (w64 (v45_1 + 1)), v2_1, v2_1_1, v2_1_2, (l1012_1 ++ [r7]), _, _) r hy (Nat.lt_succ_self _) (.k r r (.k r r (.k r r (.k r r (.k r r (.k r r .nil)))))) (.k r r (.k r r .nil))
   ·replace hy := ifF hy h4
    refine at_exit <| at_te <| at_te <| at_inBlock <| ?_
    replace hy := sj hy
    subst hy
    refine metI (v2_1, v2_1_1, v2_1_2, l1012_1, _, _) r hc1 (.k r r (.k r r .nil)) (.k r r (.k r r .nil))
  ·rintro ⟨v2_2, v2_2_1, v2_2_2, l1012_2, g2_1, g1012_1⟩ cl hy
   subst hk1
   change At _ cl (mk _ _) _
   refine frzP (f := B) (l := l1012_2) 12 1012 r r pu_B <| reg 8 r <| ldw tk32 r r r r r r <| mv r r r <| ?_
   obtain ⟨r9, qr9, hy⟩ := bndI hy
   refine clp (w_pick_Mark qr9) ca21 r r (.cons (pu_Tw _) (.cons ((pu_l 1 pu_B) _) (.nil))) (.tup (.cons ((pu_l 1 (pu_l 1 pu_I)) _) (.cons (pu_I _) (.nil)))) r <| mv r r r <| ext r r r r <| ext r r r r <| asg r r r <| asg r r r <| dn <| reg 6 r <| ldw tk32 r r r r r r <| mv r r r <| mv r r r <| str tk32 r r r r r r r <| asg r r r <| asg r r r <| dn <| at_ret <| ?_
   replace hy := sj hy
   subst hy
   exact endZ [] (rs := [_, _, _]) r (by simp) (.inl r) (.cell _ _ _ _ _ _ _ _ _ _ _ _ _ r r r tk32 r (.tmp _ _ _ _ r (.tmp _ _ _ _ r .nil))) (by simp) (PuL.rn (xs := [(TwA (Tw.mk (Tw.mk v2_2 v2_2_1 v2_2_2).tokens (Tw.mk v2_2 v2_2_1 v2_2_2).heights (Tw.mk v2_2 v2_2_1 v2_2_2).next)), ((SL 1 (SL 1 I)) r9.1), (I r9.2)]) (.cons (pu_Tw _) (.cons ((pu_l 1 (pu_l 1 pu_I)) _) (.cons (pu_I _) (.nil)))))
end Go.Ar
