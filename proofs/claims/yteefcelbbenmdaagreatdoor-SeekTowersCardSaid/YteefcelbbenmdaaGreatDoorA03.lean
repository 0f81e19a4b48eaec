import Derived.Test.YteefcelbbenmdaaGreatDoorA02
set_option linter.all false
namespace Go.Ar
open Go.RowKit
def p_r01_Ints_L1 (K : Nat) (a0 : (List Int)) (a1 : (List Int)) : Nat → Int → Option (Sum Unit Bool)
 | 0, _ => none
 | n+1, v5_1 => (bif (decide (v5_1 < (a0.length : Int))) then (ixP a0 v5_1 fun v2 => (ixP a1 v5_1 fun v4 => (bif (v2 != v4) then some (.inr false) else p_r01_Ints_L1 K a0 a1 n (w64 (v5_1 + 1))))) else some (.inl ()))
def p_r01_Ints (K : Nat) (a0 : (List Int)) (a1 : (List Int)) : Option Bool :=
 (bif ((a0.length : Int) != (a1.length : Int)) then some false else ((p_r01_Ints_L1 K a0 a1 K 0 : Option (Sum Unit Bool)).bind fun | .inl _ => some true | .inr r => some r))
theorem w_r01_Ints {K : Nat} {a0 : (List Int)} {a1 : (List Int)} {y : Bool} (hy : p_r01_Ints K a0 a1 = some y) : Does PP GV 16 [] [((SL 1 I) a0), ((SL 1 I) a1)] [] [] (B y) := by
 unfold p_r01_Ints at hy
 refine does_of at16 r (le_ok r) <| ?_
 rintro ⟨_, base, w0, F⟩ rfl
 refine reg 1 r <| asg r r r <| dn <| at_seq <| reg 5 r <| mv r r r <| lnf (f := I) slB29 r r r <| mv r r r <| lnf (f := I) slB29 r r r <| bn r r r r r <| dn <| cd r (fun h1 => ?_) (fun h1 => ?_)
 ·replace hy := ifT hy h1
  refine reg 1 r <| asg r r r <| dn <| at_ret <| ?_
  replace hy := sj hy
  subst hy
  exact out1 r (.inl r) (look_of r) r (pu_B _)
 ·replace hy := ifF hy h1
  refine at_skip <| ?_
  obtain ⟨o1, hy, k1, hk1, hc1⟩ := bndK hy
  refine meetI (fun (p : Unit) => match p with | _ => mk [] []) (fun p => match p with | _ => k1 (.inl ()) = some y) ?_ ?_
  ·skip
   refine reg 1 r <| asg r r r <| dn <| at_block <| wk (T' := [(0, ((SL 1 I) a0)), (1, ((SL 1 I) a1)), (5, (I 0))]) (H' := []) (.k r r (.k r r (.k r r .nil))) .nil <| loopI (fun (p : Nat × Int) => match p with | (n2, v5_1) => mk [(0, ((SL 1 I) a0)), (1, ((SL 1 I) a1)), (5, (I v5_1))] []) (fun p => match p with | (n2, v5_1) => p_r01_Ints_L1 K a0 a1 n2 v5_1 = some o1) (fun p => p.1) ?_ (K, 0) hy _
   rintro ⟨n2, v5_1⟩ cl hy
   cases n2 with | zero => cases hy | succ n2 => ?_
   change At _ cl (mk _ _) _
   replace hy : p_r01_Ints_L1 K a0 a1 (n2+1) v5_1 = some o1 := hy
   rw [p_r01_Ints_L1] at hy
   refine at_seq <| reg 4 r <| mv r r r <| mv r r r <| lnf (f := I) slB29 r r r <| bn r r r r r <| dn <| cd r (fun h4 => ?_) (fun h4 => ?_)
   ·replace hy := ifT hy h4
    refine at_skip <| at_seq <| at_block <| regd mixed 9 r <| mv r r r <| mv r r r <| ?_
    obtain ⟨i1, v2, qi1, xv2, hy⟩ := ixI hy
    refine fixP (f := I) sl29 qi1 xv2 r r r r <| fld tk3 r r r r <| mv r r r <| mv r r r <| ?_
    obtain ⟨i3, v4, qi3, xv4, hy⟩ := ixI hy
    refine fixP (f := I) sl29 qi3 xv4 r r r r <| fld tk3 r r r r <| bn r r r r r <| dn ⟨by kernel_rfl, ?_⟩
    refine cd r (fun h5 => ?_) (fun h5 => ?_)
    ·replace hy := ifT hy h5
     refine reg 1 r <| asg r r r <| dn <| at_ret <| ?_
     replace hy := sj hy
     subst hy
     subst hk1
     replace hc1 := Option.some.inj hc1
     subst hc1
     exact out1 r (.inl r) (look_of r) r (pu_B _)
    ·replace hy := ifF hy h5
     refine at_skip <| at_bn <| reg1 3 r <| mv r r r <| bn r r r r r <| asg r r r <| dn <| againI (n2, (w64 (v5_1 + 1))) r hy (Nat.lt_succ_self _) (.k r r (.k r r (.k r r .nil))) .nil
   ·replace hy := ifF hy h4
    refine at_exit <| at_te <| at_te <| at_inBlock <| ?_
    replace hy := sj hy
    subst hy
    refine metI () r hc1 .nil .nil
  ·rintro ⟨⟩ cl hy
   subst hk1
   change At _ cl (mk _ _) _
   refine reg 1 r <| asg r r r <| dn <| at_ret <| ?_
   replace hy := sj hy
   subst hy
   exact out1 r (.inl r) (look_of r) r (pu_B _)
def p_r13_Place_L1 (K : Nat) (a0 : (List Int)) (a1 : Int) : Nat → Int → Option (Sum Unit Int)
 | 0, _ => none
 | n+1, v5_1 => (bif (decide (v5_1 < (a0.length : Int))) then (ixP a0 v5_1 fun v2 => (bif (v2 == a1) then some (.inr v5_1) else p_r13_Place_L1 K a0 a1 n (w64 (v5_1 + 1)))) else some (.inl ()))
def p_r13_Place (K : Nat) (a0 : (List Int)) (a1 : Int) : Option Int :=
 ((p_r13_Place_L1 K a0 a1 K 0 : Option (Sum Unit Int)).bind fun | .inl _ => some (-1) | .inr r => some r)
theorem w_r13_Place {K : Nat} {a0 : (List Int)} {a1 : Int} {y : Int} (hy : p_r13_Place K a0 a1 = some y) : Does PP GV 79 [] [((SL 1 I) a0), (I a1)] [] [] (I y) := by
 unfold p_r13_Place at hy
 refine does_of at79 r (le_ok r) <| ?_
 rintro ⟨_, base, w0, F⟩ rfl
 refine reg 1 r <| asg r r r <| dn <| ?_
 obtain ⟨o1, hy, k1, hk1, hc1⟩ := bndK hy
 refine meetI (fun (p : Unit) => match p with | _ => mk [] []) (fun p => match p with | _ => k1 (.inl ()) = some y) ?_ ?_
 ·skip
  refine reg 1 r <| asg r r r <| dn <| at_block <| wk (T' := [(0, ((SL 1 I) a0)), (1, (I a1)), (5, (I 0))]) (H' := []) (.k r r (.k r r (.k r r .nil))) .nil <| loopI (fun (p : Nat × Int) => match p with | (n2, v5_1) => mk [(0, ((SL 1 I) a0)), (1, (I a1)), (5, (I v5_1))] []) (fun p => match p with | (n2, v5_1) => p_r13_Place_L1 K a0 a1 n2 v5_1 = some o1) (fun p => p.1) ?_ (K, 0) hy _
  rintro ⟨n2, v5_1⟩ cl hy
  cases n2 with | zero => cases hy | succ n2 => ?_
  change At _ cl (mk _ _) _
  replace hy : p_r13_Place_L1 K a0 a1 (n2+1) v5_1 = some o1 := hy
  rw [p_r13_Place_L1] at hy
  refine at_seq <| reg 4 r <| mv r r r <| mv r r r <| lnf (f := I) slB29 r r r <| bn r r r r r <| dn <| cd r (fun h3 => ?_) (fun h3 => ?_)
  ·replace hy := ifT hy h3
   refine at_skip <| at_seq <| at_block <| reg 6 r <| mv r r r <| mv r r r <| ?_
   obtain ⟨i1, v2, qi1, xv2, hy⟩ := ixI hy
   refine fixP (f := I) sl29 qi1 xv2 r r r r <| fld tk3 r r r r <| mv r r r <| bn r r r r r <| dn <| cd r (fun h4 => ?_) (fun h4 => ?_)
   ·replace hy := ifT hy h4
    refine reg 2 r <| mv r r r <| asg r r r <| dn <| at_ret <| ?_
    replace hy := sj hy
    subst hy
    subst hk1
    replace hc1 := Option.some.inj hc1
    subst hc1
    exact out1 r (.inl r) (look_of r) r (pu_I _)
   ·replace hy := ifF hy h4
    refine at_skip <| at_bn <| reg1 3 r <| mv r r r <| bn r r r r r <| asg r r r <| dn <| againI (n2, (w64 (v5_1 + 1))) r hy (Nat.lt_succ_self _) (.k r r (.k r r (.k r r .nil))) .nil
  ·replace hy := ifF hy h3
   refine at_exit <| at_te <| at_te <| at_inBlock <| ?_
   replace hy := sj hy
   subst hy
   refine metI () r hc1 .nil .nil
 ·rintro ⟨⟩ cl hy
  subst hk1
  change At _ cl (mk _ _) _
  refine reg 1 r <| asg r r r <| dn <| at_ret <| ?_
  replace hy := sj hy
  subst hy
  exact out1 r (.inl r) (look_of r) r (pu_I _)
def p_r13_Right_L1 (K : Nat) (a0 : (List Int)) : Nat → Int → Option (Sum Unit Bool)
 | 0, _ => none
 | n+1, v3_1 => (bif (decide (v3_1 < (a0.length : Int))) then (ixP a0 v3_1 fun v2 => (bif (decide (v2 < 0)) then some (.inr false) else (ixP a0 v3_1 fun v4 => (bif (decide (v4 > 10000)) then some (.inr false) else (slP a0 0 v3_1 fun v7 => (ixP a0 v3_1 fun v9 => ((p_r13_Place K v7 v9).bind fun r10 => (bif (decide (r10 ≥ 0)) then some (.inr false) else p_r13_Right_L1 K a0 n (w64 (v3_1 + 1)))))))))) else some (.inl ()))
def p_r13_Right (K : Nat) (a0 : (List Int)) : Option Bool :=
 (bif (decide ((a0.length : Int) > 1000)) then some false else ((p_r13_Right_L1 K a0 K 0 : Option (Sum Unit Bool)).bind fun | .inl _ => some true | .inr r => some r))
theorem w_r13_Right {K : Nat} {a0 : (List Int)} {y : Bool} (hy : p_r13_Right K a0 = some y) : Does PP GV 48 [] [((SL 1 I) a0)] [] [] (B y) := by
 unfold p_r13_Right at hy
 refine does_of at48 r (le_ok r) <| ?_
 rintro ⟨_, base, w0, F⟩ rfl
 refine reg 1 r <| asg r r r <| dn <| at_seq <| reg 3 r <| mv r r r <| lnf (f := I) slB29 r r r <| bn r r r r r <| dn <| cd r (fun h1 => ?_) (fun h1 => ?_)
 ·replace hy := ifT hy h1
  refine reg 1 r <| asg r r r <| dn <| at_ret <| ?_
  replace hy := sj hy
  subst hy
  exact out1 r (.inl r) (look_of r) r (pu_B _)
 ·replace hy := ifF hy h1
  refine at_skip <| ?_
  obtain ⟨o1, hy, k1, hk1, hc1⟩ := bndK hy
  refine meetI (fun (p : Unit) => match p with | _ => mk [] []) (fun p => match p with | _ => k1 (.inl ()) = some y) ?_ ?_
  ·skip
   refine reg 1 r <| asg r r r <| dn <| at_block <| wk (T' := [(0, ((SL 1 I) a0)), (3, (I 0))]) (H' := []) (.k r r (.k r r .nil)) .nil <| loopI (fun (p : Nat × Int) => match p with | (n2, v3_1) => mk [(0, ((SL 1 I) a0)), (3, (I v3_1))] []) (fun p => match p with | (n2, v3_1) => p_r13_Right_L1 K a0 n2 v3_1 = some o1) (fun p => p.1) ?_ (K, 0) hy _
   rintro ⟨n2, v3_1⟩ cl hy
   cases n2 with | zero => cases hy | succ n2 => ?_
   change At _ cl (mk _ _) _
   replace hy : p_r13_Right_L1 K a0 (n2+1) v3_1 = some o1 := hy
   rw [p_r13_Right_L1] at hy
   refine at_seq <| reg 4 r <| mv r r r <| mv r r r <| lnf (f := I) slB29 r r r <| bn r r r r r <| dn <| cd r (fun h4 => ?_) (fun h4 => ?_)
   ·replace hy := ifT hy h4
    refine at_skip <| at_seq <| at_block <| regd mixed 23 r <| mv r r r <| mv r r r <| ?_
    obtain ⟨i1, v2, qi1, xv2, hy⟩ := ixI hy
    refine fixP (f := I) sl29 qi1 xv2 r r r r <| fld tk3 r r r r <| bn r r r r r <| mv r r r <| cas 18 r (fun h5 => ?_) (fun h5 => ?_)
    ·replace hy := ifT hy h5
     refine sk r r <| sk r r <| sk r r <| sk r r <| sk r r <| pkt r r r r r <| mv r r r <| sk r r <| sk r r <| sk r r <| sk r r <| sk r r <| sk r r <| sk r r <| sk r r <| sk r r <| pkt r r r r r <| dn ⟨by kernel_rfl, ?_⟩
     refine cdt r <| reg 1 r <| asg r r r <| dn <| at_ret <| ?_
     replace hy := sj hy
     subst hy
     subst hk1
     replace hc1 := Option.some.inj hc1
     subst hc1
     exact out1 r (.inl r) (look_of r) r (pu_B _)
    ·replace hy := ifF hy h5
     refine mv r r r <| mv r r r <| ?_
     obtain ⟨i3, v4, qi3, xv4, hy⟩ := ixI hy
     refine fixP (f := I) sl29 qi3 xv4 r r r r <| fld tk3 r r r r <| bn r r r r r <| pkf r r r r r <| mv r r r <| cas 25 r (fun h6 => ?_) (fun h6 => ?_)
     ·replace hy := ifT hy h6
      refine sk r r <| sk r r <| sk r r <| sk r r <| sk r r <| sk r r <| sk r r <| sk r r <| sk r r <| pkt r r r r r <| dn ⟨by kernel_rfl, ?_⟩
      refine cdt r <| reg 1 r <| asg r r r <| dn <| at_ret <| ?_
      replace hy := sj hy
      subst hy
      subst hk1
      replace hc1 := Option.some.inj hc1
      subst hc1
      exact out1 r (.inl r) (look_of r) r (pu_B _)
     ·replace hy := ifF hy h6
      refine mv r r r <| mv r r r <| ?_
      obtain ⟨i5, i6, qi5, qi6, bi5, ci5, hy⟩ := slI hy
      refine fslhP (f := I) sl29 qi5 qi6 ci5 r r r r <| ?_
      generalize ((List.take i6 a0).drop i5) = v7 at hy ⊢
      refine mv r r r <| mv r r r <| ?_
      obtain ⟨i8, v9, qi8, xv9, hy⟩ := ixI hy
      refine fixP (f := I) sl29 qi8 xv9 r r r r <| fld tk3 r r r r <| ?_
      obtain ⟨r10, qr10, hy⟩ := bndI hy
      refine clp (w_r13_Place qr10) ca79 r r (.cons ((pu_l 1 pu_I) _) (.cons (pu_I _) (.nil))) (.one (pu_I _)) r <| bn r r r r r <| pkf r r r r r <| dn ⟨by kernel_rfl, ?_⟩
      refine cd r (fun h7 => ?_) (fun h7 => ?_)
      ·replace hy := ifT hy h7
       refine reg 1 r <| asg r r r <| dn <| at_ret <| ?_
       replace hy := sj hy
       subst hy
       subst hk1
       replace hc1 := Option.some.inj hc1
       subst hc1
       exact out1 r (.inl r) (look_of r) r (pu_B _)
      ·replace hy := ifF hy h7
       refine at_skip <| at_bn <| reg1 3 r <| mv r r r <| bn r r r r r <| asg r r r <| dn <| againI (n2, (w64 (v3_1 + 1))) r hy (Nat.lt_succ_self _) (.k r r (.k r r .nil)) .nil
   ·replace hy := ifF hy h4
    refine at_exit <| at_te <| at_te <| at_inBlock <| ?_
    replace hy := sj hy
    subst hy
    refine metI () r hc1 .nil .nil
  ·rintro ⟨⟩ cl hy
   subst hk1
   change At _ cl (mk _ _) _
   refine reg 1 r <| asg r r r <| dn <| at_ret <| ?_
   replace hy := sj hy
   subst hy
   exact out1 r (.inl r) (look_of r) r (pu_B _)
def p_r18_in (K : Nat) (a0 : Int) (a1 : Int) : Option Bool :=
 (bif (decide (a0 ≥ 1)) then (bif (decide (a0 ≤ 64)) then (bif (decide (a1 ≥ 0)) then some (decide (a1 < a0)) else some false) else some false) else some false)
theorem w_r18_in {K : Nat} {a0 : Int} {a1 : Int} {y : Bool} (hy : p_r18_in K a0 a1 = some y) : Does PP GV 77 [] [(I a0), (I a1)] [] [] (B y) := by
 unfold p_r18_in at hy
 refine does_of at77 r (le_ok r) <| ?_
 rintro ⟨_, base, w0, F⟩ rfl
 refine reg 1 r <| asg r r r <| dn <| reg 16 r <| mv r r r <| bn r r r r r <| mv r r r <| cas 7 r (fun h1 => ?_) (fun h1 => ?_)
 ·replace hy := ifT hy h1
  refine mv r r r <| bn r r r r r <| pkt r r r r r <| mv r r r <| cas 11 r (fun h2 => ?_) (fun h2 => ?_)
  ·replace hy := ifT hy h2
   refine mv r r r <| bn r r r r r <| pkt r r r r r <| mv r r r <| cas 15 r (fun h3 => ?_) (fun h3 => ?_)
   ·replace hy := ifT hy h3
    refine mv r r r <| mv r r r <| bn r r r r r <| pkt r r r r r <| asg r r r <| dn <| at_ret <| ?_
    replace hy := sj hy
    subst hy
    exact out1 r (.inl r) (look_of r) r (pu_B _)
   ·replace hy := ifF hy h3
    refine sk r r <| sk r r <| sk r r <| pkf r r r r r <| asg r r r <| dn <| at_ret <| ?_
    replace hy := sj hy
    subst hy
    exact out1 r (.inl r) (look_of r) r (pu_B _)
  ·replace hy := ifF hy h2
   refine sk r r <| sk r r <| pkf r r r r r <| mv r r r <| sk r r <| sk r r <| sk r r <| pkf r r r r r <| asg r r r <| dn <| at_ret <| ?_
   replace hy := sj hy
   subst hy
   exact out1 r (.inl r) (look_of r) r (pu_B _)
 ·replace hy := ifF hy h1
  refine sk r r <| sk r r <| pkf r r r r r <| mv r r r <| sk r r <| sk r r <| pkf r r r r r <| mv r r r <| sk r r <| sk r r <| sk r r <| pkf r r r r r <| asg r r r <| dn <| at_ret <| ?_
  replace hy := sj hy
  subst hy
  exact out1 r (.inl r) (look_of r) r (pu_B _)
def p_r18_Arc (K : Nat) (a0 : Int) (a1 : Int) (a2 : Int) : Option Int :=
 ((p_r18_in K a0 a1).bind fun r1 => (bif (!r1) then some (-1) else ((p_r18_in K a0 a2).bind fun r2 => (bif (!r2) then some (-1) else (bif (a1 == a2) then some (-1) else some (w64 ((w64 (a0 + (w64 (a1 * a0)))) + a2)))))))
theorem w_r18_Arc {K : Nat} {a0 : Int} {a1 : Int} {a2 : Int} {y : Int} (hy : p_r18_Arc K a0 a1 a2 = some y) : Does PP GV 122 [] [(I a0), (I a1), (I a2)] [] [] (I y) := by
 unfold p_r18_Arc at hy
 refine does_of at122 r (le_ok r) <| ?_
 rintro ⟨_, base, w0, F⟩ rfl
 refine reg 1 r <| asg r r r <| dn <| at_seq <| reg 15 r <| mv r r r <| mv r r r <| ?_
 obtain ⟨r1, qr1, hy⟩ := bndI hy
 refine clp (w_r18_in qr1) ca77 r r (.cons (pu_I _) (.cons (pu_I _) (.nil))) (.one (pu_B _)) r <| nt r r r <| mv r r r <| cas 11 r (fun h1 => ?_) (fun h1 => ?_)
 ·replace hy := ifT hy h1
  refine sk r r <| sk r r <| sk r r <| sk r r <| pkt r r r r r <| mv r r r <| sk r r <| sk r r <| sk r r <| pkt r r r r r <| dn <| cdt r <| reg 1 r <| asg r r r <| dn <| at_ret <| ?_
  replace hy := sj hy
  subst hy
  exact out1 r (.inl r) (look_of r) r (pu_I _)
 ·replace hy := ifF hy h1
  refine mv r r r <| mv r r r <| ?_
  obtain ⟨r2, qr2, hy⟩ := bndI hy
  refine clp (w_r18_in qr2) ca77 r r (.cons (pu_I _) (.cons (pu_I _) (.nil))) (.one (pu_B _)) r <| nt r r r <| pkf r r r r r <| mv r r r <| cas 17 r (fun h2 => ?_) (fun h2 => ?_)
  ·replace hy := ifT hy h2
   refine sk r r <| sk r r <| sk r r <| pkt r r r r r <| dn <| cdt r <| reg 1 r <| asg r r r <| dn <| at_ret <| ?_
   replace hy := sj hy
   subst hy
   exact out1 r (.inl r) (look_of r) r (pu_I _)
  ·replace hy := ifF hy h2
   refine mv r r r <| mv r r r <| bn r r r r r <| pkf r r r r r <| dn <| cd r (fun h3 => ?_) (fun h3 => ?_)
   ·replace hy := ifT hy h3
    refine reg 1 r <| asg r r r <| dn <| at_ret <| ?_
    replace hy := sj hy
    subst hy
    exact out1 r (.inl r) (look_of r) r (pu_I _)
   ·replace hy := ifF hy h3
    refine at_skip <| reg 8 r <| mv r r r <| mv r r r <| mv r r r <| bn r r r r r <| bn r r r r r <| mv r r r <| bn r r r r r <| asg r r r <| dn <| at_ret <| ?_
    replace hy := sj hy
    subst hy
    exact out1 r (.inl r) (look_of r) r (pu_I _)
def p_r18_Token (K : Nat) (a0 : Int) (a1 : Int) : Option (Int × Int × Bool × Bool) :=
 ((p_r18_in K a0 a1).bind fun r1 => (bif r1 then some (a1, 0, false, true) else (bif (decide (a0 < 1)) then some (0, 0, false, false) else (bif (decide (a0 > 64)) then some (0, 0, false, false) else (bif (decide (a1 < a0)) then some (0, 0, false, false) else (bif (decide (a1 ≥ (w64 (a0 + (w64 (a0 * a0)))))) then some (0, 0, false, false) else (nzP a0 ((nzP a0 ((bif ((w64 (Int.tdiv (w64 (a1 - a0)) a0)) == (Int.tmod (w64 (a1 - a0)) a0)) then some (0, 0, false, false) else some ((w64 (Int.tdiv (w64 (a1 - a0)) a0)), (Int.tmod (w64 (a1 - a0)) a0), true, true))))))))))))
theorem w_r18_Token {K : Nat} {a0 : Int} {a1 : Int} {y : (Int × Int × Bool × Bool)} (hy : p_r18_Token K a0 a1 = some y) : Does PP GV 121 [] [(I a0), (I a1)] [] [] (.tup [(I y.1), (I y.2.1), (B y.2.2.1), (B y.2.2.2)]) := by
 unfold p_r18_Token at hy
 refine does_of at121 r (le_ok r) <| ?_
 rintro ⟨_, base, w0, F⟩ rfl
 refine reg 4 r <| asg r r r <| asg r r r <| asg r r r <| asg r r r <| dn <| at_seq <| reg 3 r <| mv r r r <| mv r r r <| ?_
 obtain ⟨r1, qr1, hy⟩ := bndI hy
 refine clp (w_r18_in qr1) ca77 r r (.cons (pu_I _) (.cons (pu_I _) (.nil))) (.one (pu_B _)) r <| dn <| cd r (fun h1 => ?_) (fun h1 => ?_)
 ·replace hy := ifT hy h1
  refine reg 5 r <| mv r r r <| asg r r r <| asg r r r <| asg r r r <| asg r r r <| dn <| at_ret <| ?_
  replace hy := sj hy
  subst hy
  exact outs (rs := [4, 5, 6, 7]) (res4 r) (by simp) (.inl r) (looks_of r) r (.cons (pu_I _) (.cons (pu_I _) (.cons (pu_B _) (.cons (pu_B _) (.nil)))))
 ·replace hy := ifF hy h1
  refine at_skip <| at_seq <| reg 20 r <| mv r r r <| bn r r r r r <| mv r r r <| cas 16 r (fun h2 => ?_) (fun h2 => ?_)
  ·replace hy := ifT hy h2
   refine sk r r <| sk r r <| pkt r r r r r <| mv r r r <| sk r r <| sk r r <| sk r r <| pkt r r r r r <| mv r r r <| sk r r <| sk r r <| sk r r <| sk r r <| sk r r <| sk r r <| sk r r <| pkt r r r r r <| dn <| cdt r <| reg 4 r <| asg r r r <| asg r r r <| asg r r r <| asg r r r <| dn <| at_ret <| ?_
   replace hy := sj hy
   subst hy
   exact outs (rs := [4, 5, 6, 7]) (res4 r) (by simp) (.inl r) (looks_of r) r (.cons (pu_I _) (.cons (pu_I _) (.cons (pu_B _) (.cons (pu_B _) (.nil)))))
  ·replace hy := ifF hy h2
   refine mv r r r <| bn r r r r r <| pkf r r r r r <| mv r r r <| cas 20 r (fun h3 => ?_) (fun h3 => ?_)
   ·replace hy := ifT hy h3
    refine sk r r <| sk r r <| sk r r <| pkt r r r r r <| mv r r r <| sk r r <| sk r r <| sk r r <| sk r r <| sk r r <| sk r r <| sk r r <| pkt r r r r r <| dn <| cdt r <| reg 4 r <| asg r r r <| asg r r r <| asg r r r <| asg r r r <| dn <| at_ret <| ?_
    replace hy := sj hy
    subst hy
    exact outs (rs := [4, 5, 6, 7]) (res4 r) (by simp) (.inl r) (looks_of r) r (.cons (pu_I _) (.cons (pu_I _) (.cons (pu_B _) (.cons (pu_B _) (.nil)))))
   ·replace hy := ifF hy h3
    refine mv r r r <| mv r r r <| bn r r r r r <| pkf r r r r r <| mv r r r <| cas 25 r (fun h4 => ?_) (fun h4 => ?_)
    ·replace hy := ifT hy h4
     refine sk r r <| sk r r <| sk r r <| sk r r <| sk r r <| sk r r <| sk r r <| pkt r r r r r <| dn <| cdt r <| reg 4 r <| asg r r r <| asg r r r <| asg r r r <| asg r r r <| dn <| at_ret <| ?_
     replace hy := sj hy
     subst hy
     exact outs (rs := [4, 5, 6, 7]) (res4 r) (by simp) (.inl r) (looks_of r) r (.cons (pu_I _) (.cons (pu_I _) (.cons (pu_B _) (.cons (pu_B _) (.nil)))))
    ·replace hy := ifF hy h4
     refine mv r r r <| mv r r r <| mv r r r <| mv r r r <| bn r r r r r <| bn r r r r r <| bn r r r r r <| pkf r r r r r <| dn <| cd r (fun h5 => ?_) (fun h5 => ?_)
     ·replace hy := ifT hy h5
      refine reg 4 r <| asg r r r <| asg r r r <| asg r r r <| asg r r r <| dn <| at_ret <| ?_
      replace hy := sj hy
      subst hy
      exact outs (rs := [4, 5, 6, 7]) (res4 r) (by simp) (.inl r) (looks_of r) r (.cons (pu_I _) (.cons (pu_I _) (.cons (pu_B _) (.cons (pu_B _) (.nil)))))
     ·replace hy := ifF hy h5
      refine at_skip <| regd mixed 12 r <| mv r r r <| mv r r r <| bn r r r r r <| mv r r r <| ?_
      obtain ⟨k2, hy⟩ := nzI hy
      refine dv r r r r k2 <| mv r r r <| mv r r r <| bn r r r r r <| mv r r r <| ?_
      obtain ⟨k3, hy⟩ := nzI hy
      refine rm r r r r k3 <| asg r r r <| asg r r r <| dn ⟨by kernel_rfl, ?_⟩
      refine at_seq <| reg 3 r <| mv r r r <| mv r r r <| bn r r r r r <| dn <| cd r (fun h6 => ?_) (fun h6 => ?_)
      ·replace hy := ifT hy h6
       refine reg 4 r <| asg r r r <| asg r r r <| asg r r r <| asg r r r <| dn <| at_ret <| ?_
       replace hy := sj hy
       subst hy
       exact outs (rs := [4, 5, 6, 7]) (res4 r) (by simp) (.inl r) (looks_of r) r (.cons (pu_I _) (.cons (pu_I _) (.cons (pu_B _) (.cons (pu_B _) (.nil)))))
      ·replace hy := ifF hy h6
       refine at_skip <| reg 6 r <| mv r r r <| mv r r r <| asg r r r <| asg r r r <| asg r r r <| asg r r r <| dn <| at_ret <| ?_
       replace hy := sj hy
       subst hy
       exact outs (rs := [4, 5, 6, 7]) (res4 r) (by simp) (.inl r) (looks_of r) r (.cons (pu_I _) (.cons (pu_I _) (.cons (pu_B _) (.cons (pu_B _) (.nil)))))
def p_r18_stands (K : Nat) (a0 : Int) (a1 : Int) (a2 : Int) : Option Bool :=
 ((p_r18_Token K a0 a1).bind fun r1 => (bif r1.2.2.2 then (bif (!r1.2.2.1) then (bif (r1.1 == a2) then some true else (bif r1.2.2.1 then some (r1.2.1 == a2) else some false)) else (bif r1.2.2.1 then some (r1.2.1 == a2) else some false)) else some false))
theorem w_r18_stands {K : Nat} {a0 : Int} {a1 : Int} {a2 : Int} {y : Bool} (hy : p_r18_stands K a0 a1 a2 = some y) : Does PP GV 123 [] [(I a0), (I a1), (I a2)] [] [] (B y) := by
 unfold p_r18_stands at hy
 refine does_of at123 r (le_ok r) <| ?_
 rintro ⟨_, base, w0, F⟩ rfl
 refine reg 1 r <| asg r r r <| dn <| reg 12 r <| mv r r r <| mv r r r <| ?_
 obtain ⟨r1, qr1, hy⟩ := bndI hy
 refine clp (w_r18_Token qr1) ca121 r r (.cons (pu_I _) (.cons (pu_I _) (.nil))) (.tup (.cons (pu_I _) (.cons (pu_I _) (.cons (pu_B _) (.cons (pu_B _) (.nil)))))) r <| mv r r r <| ext r r r r <| ext r r r r <| ext r r r r <| ext r r r r <| asg r r r <| asg r r r <| asg r r r <| asg r r r <| dn <| reg 19 r <| mv r r r <| mv r r r <| cas 20 r (fun h1 => ?_) (fun h1 => ?_)
 ·replace hy := ifT hy h1
  refine mv r r r <| nt r r r <| mv r r r <| cas 23 r (fun h2 => ?_) (fun h2 => ?_)
  ·replace hy := ifT hy h2
   refine mv r r r <| mv r r r <| bn r r r r r <| pkt r r r r r <| mv r r r <| cas 28 r (fun h3 => ?_) (fun h3 => ?_)
   ·replace hy := ifT hy h3
    refine sk r r <| sk r r <| sk r r <| sk r r <| sk r r <| sk r r <| pkt r r r r r <| pkt r r r r r <| asg r r r <| dn <| at_ret <| ?_
    replace hy := sj hy
    subst hy
    exact out1 r (.inl r) (look_of r) r (pu_B _)
   ·replace hy := ifF hy h3
    refine mv r r r <| mv r r r <| cas 30 r (fun h4 => ?_) (fun h4 => ?_)
    ·replace hy := ifT hy h4
     refine mv r r r <| mv r r r <| bn r r r r r <| pkt r r r r r <| pkf r r r r r <| pkt r r r r r <| asg r r r <| dn <| at_ret <| ?_
     replace hy := sj hy
     subst hy
     exact out1 r (.inl r) (look_of r) r (pu_B _)
    ·replace hy := ifF hy h4
     refine sk r r <| sk r r <| sk r r <| pkf r r r r r <| pkf r r r r r <| pkt r r r r r <| asg r r r <| dn <| at_ret <| ?_
     replace hy := sj hy
     subst hy
     exact out1 r (.inl r) (look_of r) r (pu_B _)
  ·replace hy := ifF hy h2
   refine sk r r <| sk r r <| sk r r <| pkf r r r r r <| mv r r r <| mv r r r <| mv r r r <| cas 30 r (fun h3 => ?_) (fun h3 => ?_)
   ·replace hy := ifT hy h3
    refine mv r r r <| mv r r r <| bn r r r r r <| pkt r r r r r <| pkf r r r r r <| pkt r r r r r <| asg r r r <| dn <| at_ret <| ?_
    replace hy := sj hy
    subst hy
    exact out1 r (.inl r) (look_of r) r (pu_B _)
   ·replace hy := ifF hy h3
    refine sk r r <| sk r r <| sk r r <| pkf r r r r r <| pkf r r r r r <| pkt r r r r r <| asg r r r <| dn <| at_ret <| ?_
    replace hy := sj hy
    subst hy
    exact out1 r (.inl r) (look_of r) r (pu_B _)
 ·replace hy := ifF hy h1
  refine sk r r <| sk r r <| sk r r <| sk r r <| sk r r <| sk r r <| sk r r <| sk r r <| sk r r <| sk r r <| sk r r <| sk r r <| sk r r <| sk r r <| sk r r <| pkf r r r r r <| asg r r r <| dn <| at_ret <| ?_
  replace hy := sj hy
  subst hy
  exact out1 r (.inl r) (look_of r) r (pu_B _)
def p_r14_Lists_L1 (K : Nat) (a0 : (List (List Int))) (a1 : (List (List Int))) : Nat → Int → Option (Sum Unit Bool)
 | 0, _ => none
 | n+1, v5_1 => (bif (decide (v5_1 < (a0.length : Int))) then (ixP a0 v5_1 fun v2 => (ixP a1 v5_1 fun v4 => ((p_r01_Ints K v2 v4).bind fun r5 => (bif (!r5) then some (.inr false) else p_r14_Lists_L1 K a0 a1 n (w64 (v5_1 + 1)))))) else some (.inl ()))
def p_r14_Lists (K : Nat) (a0 : (List (List Int))) (a1 : (List (List Int))) : Option Bool :=
 (bif ((a0.length : Int) != (a1.length : Int)) then some false else ((p_r14_Lists_L1 K a0 a1 K 0 : Option (Sum Unit Bool)).bind fun | .inl _ => some true | .inr r => some r))
theorem w_r14_Lists {K : Nat} {a0 : (List (List Int))} {a1 : (List (List Int))} {y : Bool} (hy : p_r14_Lists K a0 a1 = some y) : Does PP GV 10 [] [((SL 1 (SL 1 I)) a0), ((SL 1 (SL 1 I)) a1)] [] [] (B y) := by
 unfold p_r14_Lists at hy
 refine does_of at10 r (le_ok r) <| ?_
 rintro ⟨_, base, w0, F⟩ rfl
 refine reg 1 r <| asg r r r <| dn <| at_seq <| reg 5 r <| mv r r r <| lnf (f := (SL 1 I)) slB30 r r r <| mv r r r <| lnf (f := (SL 1 I)) slB30 r r r <| bn r r r r r <| dn <| cd r (fun h1 => ?_) (fun h1 => ?_)
 ·replace hy := ifT hy h1
  refine reg 1 r <| asg r r r <| dn <| at_ret <| ?_
  replace hy := sj hy
  subst hy
  exact out1 r (.inl r) (look_of r) r (pu_B _)
 ·replace hy := ifF hy h1
  refine at_skip <| ?_
  obtain ⟨o1, hy, k1, hk1, hc1⟩ := bndK hy
  refine meetI (fun (p : Unit) => match p with | _ => mk [] []) (fun p => match p with | _ => k1 (.inl ()) = some y) ?_ ?_
  ·skip
   refine reg 1 r <| asg r r r <| dn <| at_block <| wk (T' := [(0, ((SL 1 (SL 1 I)) a0)), (1, ((SL 1 (SL 1 I)) a1)), (5, (I 0))]) (H' := []) (.k r r (.k r r (.k r r .nil))) .nil <| loopI (fun (p : Nat × Int) => match p with | (n2, v5_1) => mk [(0, ((SL 1 (SL 1 I)) a0)), (1, ((SL 1 (SL 1 I)) a1)), (5, (I v5_1))] []) (fun p => match p with | (n2, v5_1) => p_r14_Lists_L1 K a0 a1 n2 v5_1 = some o1) (fun p => p.1) ?_ (K, 0) hy _
   rintro ⟨n2, v5_1⟩ cl hy
   cases n2 with | zero => cases hy | succ n2 => ?_
   change At _ cl (mk _ _) _
   replace hy : p_r14_Lists_L1 K a0 a1 (n2+1) v5_1 = some o1 := hy
   rw [p_r14_Lists_L1] at hy
   refine at_seq <| reg 4 r <| mv r r r <| mv r r r <| lnf (f := (SL 1 I)) slB30 r r r <| bn r r r r r <| dn <| cd r (fun h4 => ?_) (fun h4 => ?_)
   ·replace hy := ifT hy h4
    refine at_skip <| at_seq <| at_block <| regd mixed 10 r <| mv r r r <| mv r r r <| ?_
    obtain ⟨i1, v2, qi1, xv2, hy⟩ := ixI hy
    refine fixP (f := (SL 1 I)) sl30 qi1 xv2 r r r r <| fld tk29 r r r r <| mv r r r <| mv r r r <| ?_
    obtain ⟨i3, v4, qi3, xv4, hy⟩ := ixI hy
    refine fixP (f := (SL 1 I)) sl30 qi3 xv4 r r r r <| fld tk29 r r r r <| ?_
    obtain ⟨r5, qr5, hy⟩ := bndI hy
    refine clp (w_r01_Ints qr5) ca16 r r (.cons ((pu_l 1 pu_I) _) (.cons ((pu_l 1 pu_I) _) (.nil))) (.one (pu_B _)) r <| nt r r r <| dn ⟨by kernel_rfl, ?_⟩
    refine cd r (fun h5 => ?_) (fun h5 => ?_)
    ·replace hy := ifT hy h5
     refine reg 1 r <| asg r r r <| dn <| at_ret <| ?_
     replace hy := sj hy
     subst hy
     subst hk1
     replace hc1 := Option.some.inj hc1
     subst hc1
     exact out1 r (.inl r) (look_of r) r (pu_B _)
    ·replace hy := ifF hy h5
     refine at_skip <| at_bn <| reg1 3 r <| mv r r r <| bn r r r r r <| asg r r r <| dn <| againI (n2, (w64 (v5_1 + 1))) r hy (Nat.lt_succ_self _) (.k r r (.k r r (.k r r .nil))) .nil
   ·replace hy := ifF hy h4
    refine at_exit <| at_te <| at_te <| at_inBlock <| ?_
    replace hy := sj hy
    subst hy
    refine metI () r hc1 .nil .nil
  ·rintro ⟨⟩ cl hy
   subst hk1
   change At _ cl (mk _ _) _
   refine reg 1 r <| asg r r r <| dn <| at_ret <| ?_
   replace hy := sj hy
   subst hy
   exact out1 r (.inl r) (look_of r) r (pu_B _)
def p_r14_Same (K : Nat) (a0 : Tw) (a1 : Tw) : Option Bool :=
 ((p_r01_Ints K a0.tokens a1.tokens).bind fun r1 => (bif r1 then ((p_r01_Ints K a0.heights a1.heights).bind fun r2 => (bif r2 then ((p_r14_Lists K a0.next a1.next).bind fun r3 => some r3) else some false)) else some false))
theorem w_r14_Same {K : Nat} {a0 : Tw} {a1 : Tw} {y : Bool} (hy : p_r14_Same K a0 a1 = some y) : Does PP GV 9 [] [(TwA a0), (TwA a1)] [] [] (B y) := by
 unfold p_r14_Same at hy
 refine does_of at9 r (le_ok r) <| ?_
 rintro ⟨_, base, w0, F⟩ rfl
 refine reg 3 r <| bx 1 r r r r <| bx 2 r r r r <| asg r r r <| dn <| reg 20 r <| fa fo32_0 r r r <| ld tk29 r r r r r r <| fa fo32_0 r r r <| ld tk29 r r r r r r <| ?_
 obtain ⟨r1, qr1, hy⟩ := bndI hy
 refine clp (w_r01_Ints qr1) ca16 r r (.cons ((pu_l 1 pu_I) _) (.cons ((pu_l 1 pu_I) _) (.nil))) (.one (pu_B _)) r <| mv r r r <| cas 10 r (fun h1 => ?_) (fun h1 => ?_)
 ·replace hy := ifT hy h1
  refine fa fo32_1 r r r <| ld tk29 r r r r r r <| fa fo32_1 r r r <| ld tk29 r r r r r r <| ?_
  obtain ⟨r2, qr2, hy⟩ := bndI hy
  refine clp (w_r01_Ints qr2) ca16 r r (.cons ((pu_l 1 pu_I) _) (.cons ((pu_l 1 pu_I) _) (.nil))) (.one (pu_B _)) r <| pkt r r r r r <| mv r r r <| cas 17 r (fun h2 => ?_) (fun h2 => ?_)
  ·replace hy := ifT hy h2
   refine fa fo32_2 r r r <| ld tk30 r r r r r r <| fa fo32_2 r r r <| ld tk30 r r r r r r <| ?_
   obtain ⟨r3, qr3, hy⟩ := bndI hy
   refine clp (w_r14_Lists qr3) ca10 r r (.cons ((pu_l 1 (pu_l 1 pu_I)) _) (.cons ((pu_l 1 (pu_l 1 pu_I)) _) (.nil))) (.one (pu_B _)) r <| pkt r r r r r <| asg r r r <| dn <| at_ret <| ?_
   replace hy := sj hy
   subst hy
   exact out1 r (.inl r) (look_of r) r (pu_B _)
  ·replace hy := ifF hy h2
   refine sk r r <| sk r r <| sk r r <| sk r r <| sk r r <| pkf r r r r r <| asg r r r <| dn <| at_ret <| ?_
   replace hy := sj hy
   subst hy
   exact out1 r (.inl r) (look_of r) r (pu_B _)
 ·replace hy := ifF hy h1
  refine sk r r <| sk r r <| sk r r <| sk r r <| sk r r <| pkf r r r r r <| mv r r r <| sk r r <| sk r r <| sk r r <| sk r r <| sk r r <| pkf r r r r r <| asg r r r <| dn <| at_ret <| ?_
  replace hy := sj hy
  subst hy
  exact out1 r (.inl r) (look_of r) r (pu_B _)
end Go.Ar
namespace Go.Ar
open Go.RowKit
def p_r14_Build_L1 (K : Nat) (a0 : (List Int)) (a1 : (List Int)) : Nat → Int → Option (Sum Unit (Tw × Int))
 | 0, _ => none
 | n+1, v7_1 => (bif (decide (v7_1 < (a0.length : Int))) then (ixP a1 v7_1 fun v3 => (bif (decide (v3 < 1)) then some (.inr ((Tw.mk [] [] []), 1)) else (ixP a1 v7_1 fun v5 => (bif (decide (v5 > 8)) then some (.inr ((Tw.mk [] [] []), 1)) else p_r14_Build_L1 K a0 a1 n (w64 (v7_1 + 1)))))) else some (.inl ()))
def p_r14_Build_L4 (K : Nat) (a0 : (List Int)) (a1 : (List Int)) (v9_9 : Int) (v11_6 : Int) : Nat → Int → Option Int
 | 0, _ => none
 | n+1, v12_3 => (nzP (a0.length : Int) ((ixP a1 (Int.tmod (w64 (v9_9 + v12_3)) (a0.length : Int)) fun v12 => (bif (decide (v12 ≤ v11_6)) then p_r14_Build_L4 K a0 a1 v9_9 v11_6 n (w64 (v12_3 + 1)) else some v12_3))))
def p_r14_Build_L3 (K : Nat) (a1 : (List Int)) (v9_9 : Int) (a0 : (List Int)) : Nat → Int → (List Int) → Option (List Int)
 | 0, _, _ => none
 | n+1, v11_6, l1010_6 => (ixP a1 v9_9 fun v9 => (bif (decide (v11_6 < v9)) then ((((p_r14_Build_L4 K a0 a1 v9_9 v11_6 K 1 : Option Int).bind fun v12_4 => (nzP (a0.length : Int) ((apP 8 l1010_6.length [(Int.tmod (w64 (v9_9 + v12_4)) (a0.length : Int))].length (some (l1010_6 ++ [(Int.tmod (w64 (v9_9 + v12_4)) (a0.length : Int))])))))) : Option (List Int)).bind fun l1010_5 => p_r14_Build_L3 K a1 v9_9 a0 n (w64 (v11_6 + 1)) l1010_5) else some l1010_6))
def p_r14_Build_L2 (K : Nat) (a0 : (List Int)) (a1 : (List Int)) : Nat → Int → (List (List Int)) → Option (List (List Int))
 | 0, _, _ => none
 | n+1, v9_9, l2042_9 => (bif (decide (v9_9 < (a0.length : Int))) then ((((p_r14_Build_L3 K a1 v9_9 a0 K 0 [] : Option (List Int)).bind fun l1010_7 => (apP 24 l2042_9.length [l1010_7].length (some (l2042_9 ++ [l1010_7])))) : Option (List (List Int))).bind fun l2042_8 => p_r14_Build_L2 K a0 a1 n (w64 (v9_9 + 1)) l2042_8) else some l2042_9)
def p_r14_Build (K : Nat) (a0 : (List Int)) (a1 : (List Int)) : Option (Tw × Int) :=
 ((p_r13_Right K a0).bind fun r1 => (bif (!r1) then some ((Tw.mk [] [] []), 1) else (bif ((a0.length : Int) == 0) then some ((Tw.mk [] [] []), 1) else (bif ((a1.length : Int) != (a0.length : Int)) then some ((Tw.mk [] [] []), 1) else ((p_r14_Build_L1 K a0 a1 K 0 : Option (Sum Unit (Tw × Int))).bind fun | .inl _ => (apP 8 ([] : List Int).length a0.length ((apP 8 ([] : List Int).length a1.length (((p_r14_Build_L2 K a0 a1 K 0 [] : Option (List (List Int))).bind fun l2042_10 => some ((Tw.mk (([] : List Int) ++ a0) (([] : List Int) ++ a1) l2042_10), 0)))))) | .inr r => some r)))))
theorem w_r14_Build {K : Nat} {a0 : (List Int)} {a1 : (List Int)} {y : (Tw × Int)} (hy : p_r14_Build K a0 a1 = some y) : Does PP GV 24 [] [((SL 1 I) a0), ((SL 1 I) a1)] [] [] (.tup [(TwA y.1), (I y.2)]) := by
 unfold p_r14_Build at hy
 refine does_of at24 r (le_ok r) <| ?_
 rintro ⟨_, base, w0, F⟩ rfl
 refine reg 2 r <| rg_alloc (s := 1) (gd_of r) zc32 (elems_one (by rfl)) (lt_ok r) <| asg r r r <| dn <| reg 3 r <| mv r r r <| lnf (f := I) slB29 r r r <| asg r r r <| dn <| at_seq <| reg 13 r <| mv r r r <| ?_
 obtain ⟨r1, qr1, hy⟩ := bndI hy
 refine clp (w_r13_Right qr1) ca48 r r (.cons ((pu_l 1 pu_I) _) (.nil)) (.one (pu_B _)) r <| nt r r r <| mv r r r <| cas 18 r (fun h1 => ?_) (fun h1 => ?_)
 ·replace hy := ifT hy h1
  refine sk r r <| sk r r <| pkt r r r r r <| mv r r r <| sk r r <| sk r r <| sk r r <| sk r r <| pkt r r r r r <| dn <| cdt r <| reg 3 r <| bld bd32 r r r r <| str tk32 r r r r r r r <| asg r r r <| dn <| at_ret <| cellN I 1 0 1 r r <| cellN I 1 1 1 r r <| cellN (SL 1 I) 1 2 1 r r <| ?_
  replace hy := sj hy
  subst hy
  exact endZ [] (rs := [_, _]) r (by simp) (.inl r) (.cell _ _ _ _ _ _ _ _ _ _ _ _ _ r r r tk32 r (.tmp _ _ _ _ r .nil)) (by simp) (PuL.rn (xs := [(TwA (Tw.mk [] [] [])), (I 1)]) (.cons (pu_Tw _) (.cons (pu_I _) (.nil))))
 ·replace hy := ifF hy h1
  refine mv r r r <| bn r r r r r <| pkf r r r r r <| mv r r r <| cas 22 r (fun h2 => ?_) (fun h2 => ?_)
  ·replace hy := ifT hy h2
   refine sk r r <| sk r r <| sk r r <| sk r r <| pkt r r r r r <| dn <| cdt r <| reg 3 r <| bld bd32 r r r r <| str tk32 r r r r r r r <| asg r r r <| dn <| at_ret <| cellN I 1 0 1 r r <| cellN I 1 1 1 r r <| cellN (SL 1 I) 1 2 1 r r <| ?_
   replace hy := sj hy
   subst hy
   exact endZ [] (rs := [_, _]) r (by simp) (.inl r) (.cell _ _ _ _ _ _ _ _ _ _ _ _ _ r r r tk32 r (.tmp _ _ _ _ r .nil)) (by simp) (PuL.rn (xs := [(TwA (Tw.mk [] [] [])), (I 1)]) (.cons (pu_Tw _) (.cons (pu_I _) (.nil))))
  ·replace hy := ifF hy h2
   refine mv r r r <| lnf (f := I) slB29 r r r <| mv r r r <| bn r r r r r <| pkf r r r r r <| dn <| cd r (fun h3 => ?_) (fun h3 => ?_)
   ·replace hy := ifT hy h3
    refine reg 3 r <| bld bd32 r r r r <| str tk32 r r r r r r r <| asg r r r <| dn <| at_ret <| cellN I 1 0 1 r r <| cellN I 1 1 1 r r <| cellN (SL 1 I) 1 2 1 r r <| ?_
    replace hy := sj hy
    subst hy
    exact endZ [] (rs := [_, _]) r (by simp) (.inl r) (.cell _ _ _ _ _ _ _ _ _ _ _ _ _ r r r tk32 r (.tmp _ _ _ _ r .nil)) (by simp) (PuL.rn (xs := [(TwA (Tw.mk [] [] [])), (I 1)]) (.cons (pu_Tw _) (.cons (pu_I _) (.nil))))
   ·replace hy := ifF hy h3
    refine at_skip <| ?_
    obtain ⟨o1, hy, k1, hk1, hc1⟩ := bndK hy
    refine meetI (fun (p : Nat) => match p with | g1_1 => mk [(0, ((SL 1 I) a0)), (1, ((SL 1 I) a1)), (4, .ptr 1 g1_1 0 0), (6, (I (a0.length : Int)))] [(1, some (g1_1, .buf 3 [.agg [.v (.slice none 0 0), .v (.slice none 0 0), .v (.slice none 0 0)]]))]) (fun p => match p with | g1_1 => k1 (.inl ()) = some y) ?_ ?_
    ·skip
     refine reg 1 r <| asg r r r <| dn <| at_block <| wk (T' := [(0, ((SL 1 I) a0)), (1, ((SL 1 I) a1)), (4, .ptr 1 _ 0 0), (6, (I (a0.length : Int))), (7, (I 0))]) (H' := [(1, some (_, .buf 3 [.agg [.v (.slice none 0 0), .v (.slice none 0 0), .v (.slice none 0 0)]]))]) (.k r r (.k r r (.k r r (.k r r (.k r r .nil))))) (.k r r .nil) <| loopI (fun (p : Nat × Int × Nat) => match p with | (n2, v7_1, g1_2) => mk [(0, ((SL 1 I) a0)), (1, ((SL 1 I) a1)), (4, .ptr 1 g1_2 0 0), (6, (I (a0.length : Int))), (7, (I v7_1))] [(1, some (g1_2, .buf 3 [.agg [.v (.slice none 0 0), .v (.slice none 0 0), .v (.slice none 0 0)]]))]) (fun p => match p with | (n2, v7_1, g1_2) => p_r14_Build_L1 K a0 a1 n2 v7_1 = some o1) (fun p => p.1) ?_ (K, 0, _) hy _
     rintro ⟨n2, v7_1, g1_2⟩ cl hy
     cases n2 with | zero => cases hy | succ n2 => ?_
     change At _ cl (mk _ _) _
     replace hy : p_r14_Build_L1 K a0 a1 (n2+1) v7_1 = some o1 := hy
     rw [p_r14_Build_L1] at hy
     refine at_seq <| reg 3 r <| mv r r r <| mv r r r <| bn r r r r r <| dn <| cd r (fun h6 => ?_) (fun h6 => ?_)
     ·replace hy := ifT hy h6
      refine at_skip <| at_seq <| at_block <| reg 12 r <| mv r r r <| mv r r r <| ?_
      obtain ⟨i2, v3, qi2, xv3, hy⟩ := ixI hy
      refine fixP (f := I) sl29 qi2 xv3 r r r r <| fld tk3 r r r r <| bn r r r r r <| mv r r r <| cas 39 r (fun h7 => ?_) (fun h7 => ?_)
      ·replace hy := ifT hy h7
       refine sk r r <| sk r r <| sk r r <| sk r r <| sk r r <| pkt r r r r r <| dn <| cdt r <| reg 3 r <| bld bd32 r r r r <| str tk32 r r r r r r r <| asg r r r <| dn <| at_ret <| cellN I 1 0 1 r r <| cellN I 1 1 1 r r <| cellN (SL 1 I) 1 2 1 r r <| ?_
       replace hy := sj hy
       subst hy
       subst hk1
       replace hc1 := Option.some.inj hc1
       subst hc1
       exact endZ [] (rs := [_, _]) r (by simp) (.inl r) (.cell _ _ _ _ _ _ _ _ _ _ _ _ _ r r r tk32 r (.tmp _ _ _ _ r .nil)) (by simp) (PuL.rn (xs := [(TwA (Tw.mk [] [] [])), (I 1)]) (.cons (pu_Tw _) (.cons (pu_I _) (.nil))))
      ·replace hy := ifF hy h7
       refine mv r r r <| mv r r r <| ?_
       obtain ⟨i4, v5, qi4, xv5, hy⟩ := ixI hy
       refine fixP (f := I) sl29 qi4 xv5 r r r r <| fld tk3 r r r r <| bn r r r r r <| pkf r r r r r <| dn <| cd r (fun h8 => ?_) (fun h8 => ?_)
       ·replace hy := ifT hy h8
        refine reg 3 r <| bld bd32 r r r r <| str tk32 r r r r r r r <| asg r r r <| dn <| at_ret <| cellN I 1 0 1 r r <| cellN I 1 1 1 r r <| cellN (SL 1 I) 1 2 1 r r <| ?_
        replace hy := sj hy
        subst hy
        subst hk1
        replace hc1 := Option.some.inj hc1
        subst hc1
        exact endZ [] (rs := [_, _]) r (by simp) (.inl r) (.cell _ _ _ _ _ _ _ _ _ _ _ _ _ r r r tk32 r (.tmp _ _ _ _ r .nil)) (by simp) (PuL.rn (xs := [(TwA (Tw.mk [] [] [])), (I 1)]) (.cons (pu_Tw _) (.cons (pu_I _) (.nil))))
       ·replace hy := ifF hy h8
        refine at_skip <| at_bn <| reg1 3 r <| mv r r r <| bn r r r r r <| asg r r r <| dn <| againI (n2, (w64 (v7_1 + 1)), _) r hy (Nat.lt_succ_self _) (.k r r (.k r r (.k r r (.k r r (.k r r .nil))))) (.k r r .nil)
     ·replace hy := ifF hy h6
      refine at_exit <| at_te <| at_te <| at_inBlock <| ?_
      replace hy := sj hy
      subst hy
      refine metI _ r hc1 (.k r r (.k r r (.k r r (.k r r .nil)))) (.k r r .nil)
    ·rintro g1_1 cl hy
     subst hk1
     change At _ cl (mk _ _) _
     refine reg 9 r <| bldsP I ([] : List Int) 2 se29 r r r r r r r <| mv r r r <| ?_
     obtain ⟨k6a, k6b, hy⟩ := apI hy
     refine aplP (f := I) (l := ([] : List Int)) (zs := a0) se29 k6a k6b r r r r r <| bldsP I ([] : List Int) 3 se29 r r r r r r r <| mv r r r <| ?_
     obtain ⟨k7a, k7b, hy⟩ := apI hy
     refine aplP (f := I) (l := ([] : List Int)) (zs := a1) se29 k7a k7b r r r r r <| bld bd32 r r r r <| rg_alloc (s := 4) (gd_of r) zc32 (elems_one (by rfl)) (lt_ok r) <| str tk32 r r r r r r r <| dn <| ?_
     obtain ⟨o3, hy, k3, hk3, hc3⟩ := bndK hy
     refine meetI (fun (p : (List (List Int)) × Nat × Nat × Nat × Nat × Nat) => match p with | (l2042_10, g1_3, g2_3, g3_3, g4_3, g2042_3) => mk [(4, .ptr 1 g1_3 0 0), (8, .ptr 4 g4_3 0 0)] [(1, some (g1_3, .buf 3 [.agg [.v (.slice none 0 0), .v (.slice none 0 0), .v (.slice none 0 0)]])), (2, some (g2_3, .buf 1 ((([] : List Int) ++ a0).map I))), (3, some (g3_3, .buf 1 ((([] : List Int) ++ a1).map I))), (4, some (g4_3, .buf 3 [.agg [.own 2 g2_3 1 0 ((([] : List Int) ++ a0)).length false, .own 3 g3_3 1 0 ((([] : List Int) ++ a1)).length false, .own 2042 g2042_3 1 0 (l2042_10).length false]])), (2042, some (g2042_3, .buf 1 (l2042_10.map (SL 1 I))))]) (fun p => match p with | (l2042_10, g1_3, g2_3, g3_3, g4_3, g2042_3) => k3 l2042_10 = some y) ?_ ?_
     ·skip
      refine reg 1 r <| asg r r r <| dn <| at_block <| cellO (SL 1 I) 4 2042 2 1 r r r <| wk (T' := [(1, ((SL 1 I) a1)), (4, .ptr 1 _ 0 0), (6, (I (a0.length : Int))), (8, .ptr 4 _ 0 0), (9, (I 0))]) (H' := [(1, some (_, .buf 3 [.agg [.v (.slice none 0 0), .v (.slice none 0 0), .v (.slice none 0 0)]])), (2, some (_, .buf 1 ((([] : List Int) ++ a0).map I))), (3, some (_, .buf 1 ((([] : List Int) ++ a1).map I))), (4, some (_, .buf 3 [.agg [.own 2 _ 1 0 ((([] : List Int) ++ a0)).length false, .own 3 _ 1 0 ((([] : List Int) ++ a1)).length false, .own 2042 _ 1 0 ([]).length false]])), (2042, some (_, .buf 1 ([].map (SL 1 I))))]) (.k r r (.k r r (.k r r (.k r r (.k r r .nil))))) (.k r r (.k r r (.k r r (.k r r (.k r r .nil))))) <| loopI (fun (p : Nat × Int × (List (List Int)) × Nat × Nat × Nat × Nat × Nat) => match p with | (n4, v9_9, l2042_9, g1_4, g2_4, g3_4, g4_4, g2042_4) => mk [(1, ((SL 1 I) a1)), (4, .ptr 1 g1_4 0 0), (6, (I (a0.length : Int))), (8, .ptr 4 g4_4 0 0), (9, (I v9_9))] [(1, some (g1_4, .buf 3 [.agg [.v (.slice none 0 0), .v (.slice none 0 0), .v (.slice none 0 0)]])), (2, some (g2_4, .buf 1 ((([] : List Int) ++ a0).map I))), (3, some (g3_4, .buf 1 ((([] : List Int) ++ a1).map I))), (4, some (g4_4, .buf 3 [.agg [.own 2 g2_4 1 0 ((([] : List Int) ++ a0)).length false, .own 3 g3_4 1 0 ((([] : List Int) ++ a1)).length false, .own 2042 g2042_4 1 0 (l2042_9).length false]])), (2042, some (g2042_4, .buf 1 (l2042_9.map (SL 1 I))))]) (fun p => match p with | (n4, v9_9, l2042_9, g1_4, g2_4, g3_4, g4_4, g2042_4) => p_r14_Build_L2 K a0 a1 n4 v9_9 l2042_9 = some o3) (fun p => p.1) ?_ (K, 0, [], _, _, _, _, _) hy _
      rintro ⟨n4, v9_9, l2042_9, g1_4, g2_4, g3_4, g4_4, g2042_4⟩ cl hy
      cases n4 with | zero => cases hy | succ n4 => ?_
      change At _ cl (mk _ _) _
      replace hy : p_r14_Build_L2 K a0 a1 (n4+1) v9_9 l2042_9 = some o3 := hy
      rw [p_r14_Build_L2] at hy
      refine at_seq <| reg 3 r <| mv r r r <| mv r r r <| bn r r r r r <| dn <| cd r (fun h7 => ?_) (fun h7 => ?_)
      ·replace hy := ifT hy h7
       refine at_skip <| ?_
       obtain ⟨o5, hy, k5, hk5, hc5⟩ := bndK hy
       refine meetI (fun (p : (List (List Int)) × Nat × Nat × Nat × Nat × Nat) => match p with | (l2042_8, g1_5, g2_5, g3_5, g4_5, g2042_5) => mk [(1, ((SL 1 I) a1)), (4, .ptr 1 g1_5 0 0), (6, (I (a0.length : Int))), (8, .ptr 4 g4_5 0 0), (9, (I v9_9))] [(1, some (g1_5, .buf 3 [.agg [.v (.slice none 0 0), .v (.slice none 0 0), .v (.slice none 0 0)]])), (2, some (g2_5, .buf 1 ((([] : List Int) ++ a0).map I))), (3, some (g3_5, .buf 1 ((([] : List Int) ++ a1).map I))), (4, some (g4_5, .buf 3 [.agg [.own 2 g2_5 1 0 ((([] : List Int) ++ a0)).length false, .own 3 g3_5 1 0 ((([] : List Int) ++ a1)).length false, .own 2042 g2042_5 1 0 (l2042_8).length false]])), (2042, some (g2042_5, .buf 1 (l2042_8.map (SL 1 I))))]) (fun p => match p with | (l2042_8, g1_5, g2_5, g3_5, g4_5, g2042_5) => k5 l2042_8 = some o3) ?_ ?_
       ·skip
        refine at_block <| reg 1 r <| asg r r r <| dn <| ?_
        obtain ⟨o6, hy, k6, hk6, hc6⟩ := bndK hy
        refine meetI (fun (p : (List Int) × Nat × Nat × Nat × Nat × Nat × Nat) => match p with | (l1010_7, g1_6, g2_6, g3_6, g4_6, g1010_6, g2042_6) => mk [(1, ((SL 1 I) a1)), (4, .ptr 1 g1_6 0 0), (6, (I (a0.length : Int))), (8, .ptr 4 g4_6 0 0), (9, (I v9_9)), (10, .own 1010 g1010_6 1 0 (l1010_7).length false)] [(1, some (g1_6, .buf 3 [.agg [.v (.slice none 0 0), .v (.slice none 0 0), .v (.slice none 0 0)]])), (2, some (g2_6, .buf 1 ((([] : List Int) ++ a0).map I))), (3, some (g3_6, .buf 1 ((([] : List Int) ++ a1).map I))), (4, some (g4_6, .buf 3 [.agg [.own 2 g2_6 1 0 ((([] : List Int) ++ a0)).length false, .own 3 g3_6 1 0 ((([] : List Int) ++ a1)).length false, .own 2042 g2042_6 1 0 (l2042_9).length false]])), (1010, some (g1010_6, .buf 1 (l1010_7.map I))), (2042, some (g2042_6, .buf 1 (l2042_9.map (SL 1 I))))]) (fun p => match p with | (l1010_7, g1_6, g2_6, g3_6, g4_6, g1010_6, g2042_6) => k6 l1010_7 = some o5) ?_ ?_
        ·skip
         refine reg 1 r <| asg r r r <| dn <| at_block <| niloP (I) 10 1010 1 r <| wk (T' := [(1, ((SL 1 I) a1)), (4, .ptr 1 _ 0 0), (6, (I (a0.length : Int))), (8, .ptr 4 _ 0 0), (9, (I v9_9)), (10, .own 1010 _ 1 0 ([]).length false), (11, (I 0))]) (H' := [(1, some (_, .buf 3 [.agg [.v (.slice none 0 0), .v (.slice none 0 0), .v (.slice none 0 0)]])), (2, some (_, .buf 1 ((([] : List Int) ++ a0).map I))), (3, some (_, .buf 1 ((([] : List Int) ++ a1).map I))), (4, some (_, .buf 3 [.agg [.own 2 _ 1 0 ((([] : List Int) ++ a0)).length false, .own 3 _ 1 0 ((([] : List Int) ++ a1)).length false, .own 2042 _ 1 0 (l2042_9).length false]])), (1010, some (_, .buf 1 ([].map I))), (2042, some (_, .buf 1 (l2042_9.map (SL 1 I))))]) (.k r r (.k r r (.k r r (.k r r (.k r r (.k r r (.k r r .nil))))))) (.k r r (.k r r (.k r r (.k r r (.k r r (.k r r .nil)))))) <| loopI (fun (p : Nat × Int × (List Int) × Nat × Nat × Nat × Nat × Nat × Nat) => match p with | (n7, v11_6, l1010_6, g1_7, g2_7, g3_7, g4_7, g1010_7, g2042_7) => mk [(1, ((SL 1 I) a1)), (4, .ptr 1 g1_7 0 0), (6, (I (a0.length : Int))), (8, .ptr 4 g4_7 0 0), (9, (I v9_9)), (10, .own 1010 g1010_7 1 0 (l1010_6).length false), (11, (I v11_6))] [(1, some (g1_7, .buf 3 [.agg [.v (.slice none 0 0), .v (.slice none 0 0), .v (.slice none 0 0)]])), (2, some (g2_7, .buf 1 ((([] : List Int) ++ a0).map I))), (3, some (g3_7, .buf 1 ((([] : List Int) ++ a1).map I))), (4, some (g4_7, .buf 3 [.agg [.own 2 g2_7 1 0 ((([] : List Int) ++ a0)).length false, .own 3 g3_7 1 0 ((([] : List Int) ++ a1)).length false, .own 2042 g2042_7 1 0 (l2042_9).length false]])), (1010, some (g1010_7, .buf 1 (l1010_6.map I))), (2042, some (g2042_7, .buf 1 (l2042_9.map (SL 1 I))))]) (fun p => match p with | (n7, v11_6, l1010_6, g1_7, g2_7, g3_7, g4_7, g1010_7, g2042_7) => p_r14_Build_L3 K a1 v9_9 a0 n7 v11_6 l1010_6 = some o6) (fun p => p.1) ?_ (K, 0, [], _, _, _, _, _, _) hy _
         rintro ⟨n7, v11_6, l1010_6, g1_7, g2_7, g3_7, g4_7, g1010_7, g2042_7⟩ cl hy
         cases n7 with | zero => cases hy | succ n7 => ?_
         change At _ cl (mk _ _) _
         replace hy : p_r14_Build_L3 K a1 v9_9 a0 (n7+1) v11_6 l1010_6 = some o6 := hy
         rw [p_r14_Build_L3] at hy
         refine at_seq <| reg 6 r <| mv r r r <| mv r r r <| mv r r r <| ?_
         obtain ⟨i8, v9, qi8, xv9, hy⟩ := ixI hy
         refine fixP (f := I) sl29 qi8 xv9 r r r r <| fld tk3 r r r r <| bn r r r r r <| dn <| cd r (fun h11 => ?_) (fun h11 => ?_)
         ·replace hy := ifT hy h11
          refine at_skip <| ?_
          obtain ⟨o8, hy, k8, hk8, hc8⟩ := bndK hy
          refine meetI (fun (p : (List Int) × Nat × Nat × Nat × Nat × Nat × Nat) => match p with | (l1010_5, g1_8, g2_8, g3_8, g4_8, g1010_8, g2042_8) => mk [(1, ((SL 1 I) a1)), (4, .ptr 1 g1_8 0 0), (6, (I (a0.length : Int))), (8, .ptr 4 g4_8 0 0), (9, (I v9_9)), (10, .own 1010 g1010_8 1 0 (l1010_5).length false), (11, (I v11_6))] [(1, some (g1_8, .buf 3 [.agg [.v (.slice none 0 0), .v (.slice none 0 0), .v (.slice none 0 0)]])), (2, some (g2_8, .buf 1 ((([] : List Int) ++ a0).map I))), (3, some (g3_8, .buf 1 ((([] : List Int) ++ a1).map I))), (4, some (g4_8, .buf 3 [.agg [.own 2 g2_8 1 0 ((([] : List Int) ++ a0)).length false, .own 3 g3_8 1 0 ((([] : List Int) ++ a1)).length false, .own 2042 g2042_8 1 0 (l2042_9).length false]])), (1010, some (g1010_8, .buf 1 (l1010_5.map I))), (2042, some (g2042_8, .buf 1 (l2042_9.map (SL 1 I))))]) (fun p => match p with | (l1010_5, g1_8, g2_8, g3_8, g4_8, g1010_8, g2042_8) => k8 l1010_5 = some o6) ?_ ?_
          ·skip
           refine at_block <| reg 1 r <| asg r r r <| dn <| ?_
           obtain ⟨o9, hy, k9, hk9, hc9⟩ := bndK hy
           refine meetI (fun (p : Int × Nat × Nat × Nat × Nat × Nat × Nat) => match p with | (v12_4, g1_9, g2_9, g3_9, g4_9, g1010_9, g2042_9) => mk [(1, ((SL 1 I) a1)), (4, .ptr 1 g1_9 0 0), (6, (I (a0.length : Int))), (8, .ptr 4 g4_9 0 0), (9, (I v9_9)), (10, .own 1010 g1010_9 1 0 (l1010_6).length false), (11, (I v11_6)), (12, (I v12_4))] [(1, some (g1_9, .buf 3 [.agg [.v (.slice none 0 0), .v (.slice none 0 0), .v (.slice none 0 0)]])), (2, some (g2_9, .buf 1 ((([] : List Int) ++ a0).map I))), (3, some (g3_9, .buf 1 ((([] : List Int) ++ a1).map I))), (4, some (g4_9, .buf 3 [.agg [.own 2 g2_9 1 0 ((([] : List Int) ++ a0)).length false, .own 3 g3_9 1 0 ((([] : List Int) ++ a1)).length false, .own 2042 g2042_9 1 0 (l2042_9).length false]])), (1010, some (g1010_9, .buf 1 (l1010_6.map I))), (2042, some (g2042_9, .buf 1 (l2042_9.map (SL 1 I))))]) (fun p => match p with | (v12_4, g1_9, g2_9, g3_9, g4_9, g1010_9, g2042_9) => k9 v12_4 = some o8) ?_ ?_
           ·skip
            refine at_block <| wk (T' := [(1, ((SL 1 I) a1)), (4, .ptr 1 _ 0 0), (6, (I (a0.length : Int))), (8, .ptr 4 _ 0 0), (9, (I v9_9)), (10, .own 1010 _ 1 0 (l1010_6).length false), (11, (I v11_6)), (12, (I 1))]) (H' := [(1, some (_, .buf 3 [.agg [.v (.slice none 0 0), .v (.slice none 0 0), .v (.slice none 0 0)]])), (2, some (_, .buf 1 ((([] : List Int) ++ a0).map I))), (3, some (_, .buf 1 ((([] : List Int) ++ a1).map I))), (4, some (_, .buf 3 [.agg [.own 2 _ 1 0 ((([] : List Int) ++ a0)).length false, .own 3 _ 1 0 ((([] : List Int) ++ a1)).length false, .own 2042 _ 1 0 (l2042_9).length false]])), (1010, some (_, .buf 1 (l1010_6.map I))), (2042, some (_, .buf 1 (l2042_9.map (SL 1 I))))]) (.k r r (.k r r (.k r r (.k r r (.k r r (.k r r (.k r r (.k r r .nil)))))))) (.k r r (.k r r (.k r r (.k r r (.k r r (.k r r .nil)))))) <| loopI (fun (p : Nat × Int × Nat × Nat × Nat × Nat × Nat × Nat) => match p with | (n10, v12_3, g1_10, g2_10, g3_10, g4_10, g1010_10, g2042_10) => mk [(1, ((SL 1 I) a1)), (4, .ptr 1 g1_10 0 0), (6, (I (a0.length : Int))), (8, .ptr 4 g4_10 0 0), (9, (I v9_9)), (10, .own 1010 g1010_10 1 0 (l1010_6).length false), (11, (I v11_6)), (12, (I v12_3))] [(1, some (g1_10, .buf 3 [.agg [.v (.slice none 0 0), .v (.slice none 0 0), .v (.slice none 0 0)]])), (2, some (g2_10, .buf 1 ((([] : List Int) ++ a0).map I))), (3, some (g3_10, .buf 1 ((([] : List Int) ++ a1).map I))), (4, some (g4_10, .buf 3 [.agg [.own 2 g2_10 1 0 ((([] : List Int) ++ a0)).length false, .own 3 g3_10 1 0 ((([] : List Int) ++ a1)).length false, .own 2042 g2042_10 1 0 (l2042_9).length false]])), (1010, some (g1010_10, .buf 1 (l1010_6.map I))), (2042, some (g2042_10, .buf 1 (l2042_9.map (SL 1 I))))]) (fun p => match p with | (n10, v12_3, g1_10, g2_10, g3_10, g4_10, g1010_10, g2042_10) => p_r14_Build_L4 K a0 a1 v9_9 v11_6 n10 v12_3 = some o9) (fun p => p.1) ?_ (K, 1, _, _, _, _, _, _) hy _
            rintro ⟨n10, v12_3, g1_10, g2_10, g3_10, g4_10, g1010_10, g2042_10⟩ cl hy
            cases n10 with | zero => cases hy | succ n10 => ?_
            change At _ cl (mk _ _) _
            replace hy : p_r14_Build_L4 K a0 a1 v9_9 v11_6 (n10+1) v12_3 = some o9 := hy
            rw [p_r14_Build_L4] at hy
            refine at_seq <| reg 10 r <| mv r r r <| mv r r r <| mv r r r <| bn r r r r r <| mv r r r <| ?_
            obtain ⟨k10, hy⟩ := nzI hy
            refine rm r r r r k10 <| ?_
            obtain ⟨i11, v12, qi11, xv12, hy⟩ := ixI hy
            refine fixP (f := I) sl29 qi11 xv12 r r r r <| fld tk3 r r r r <| mv r r r <| bn r r r r r <| dn <| cd r (fun h15 => ?_) (fun h15 => ?_)
            ·replace hy := ifT hy h15
             refine at_skip <| at_block <| reg1 3 r <| mv r r r <| bn r r r r r <| asg r r r <| dn <| at_bn <| againI (n10, (w64 (v12_3 + 1)), _, _, _, _, _, _) r hy (Nat.lt_succ_self _) (.k r r (.k r r (.k r r (.k r r (.k r r (.k r r (.k r r (.k r r .nil)))))))) (.k r r (.k r r (.k r r (.k r r (.k r r (.k r r .nil))))))
            ·replace hy := ifF hy h15
             refine at_exit <| at_te <| at_te <| at_inBlock <| ?_
             replace hy := sj hy
             subst hy
             refine metI (v12_3, _, _, _, _, _, _) r hc9 (.k r r (.k r r (.k r r (.k r r (.k r r (.k r r (.k r r (.k r r .nil)))))))) (.k r r (.k r r (.k r r (.k r r (.k r r (.k r r .nil))))))
           ·rintro ⟨v12_4, g1_9, g2_9, g3_9, g4_9, g1010_9, g2042_9⟩ cl hy
            subst hk9
            change At _ cl (mk _ _) _
            refine reg1 9 r <| mv r r r <| mv r r r <| mv r r r <| bn r r r r r <| mv r r r <| ?_
            obtain ⟨k13, hy⟩ := nzI hy
            refine rm r r r r k13 <| bldsP I ([(Int.tmod (w64 (v9_9 + v12_4)) (a0.length : Int))] : List Int) 5 se29 r r r r r r r <| ?_
            obtain ⟨k14a, k14b, hy⟩ := apI hy
            refine apoP (f := I) (l := l1010_6) (zs := [(Int.tmod (w64 (v9_9 + v12_4)) (a0.length : Int))]) se29 k14a k14b r r r r r r <| asg r r r <| dn <| at_bn <| ?_
            replace hy := sj hy
            subst hy
            refine metI ((l1010_6 ++ [(Int.tmod (w64 (v9_9 + v12_4)) (a0.length : Int))]), _, _, _, _, _, _) r hc8 (.k r r (.k r r (.k r r (.k r r (.k r r (.k r r (.k r r .nil))))))) (.k r r (.k r r (.k r r (.k r r (.k r r (.k r r .nil))))))
          ·rintro ⟨l1010_5, g1_8, g2_8, g3_8, g4_8, g1010_8, g2042_8⟩ cl hy
           subst hk8
           change At _ cl (mk _ _) _
           refine reg1 3 r <| mv r r r <| bn r r r r r <| asg r r r <| dn <| againI (n7, (w64 (v11_6 + 1)), l1010_5, _, _, _, _, _, _) r hy (Nat.lt_succ_self _) (.k r r (.k r r (.k r r (.k r r (.k r r (.k r r (.k r r .nil))))))) (.k r r (.k r r (.k r r (.k r r (.k r r (.k r r .nil))))))
         ·replace hy := ifF hy h11
          refine at_exit <| at_te <| at_te <| at_inBlock <| ?_
          replace hy := sj hy
          subst hy
          refine metI (l1010_6, _, _, _, _, _, _) r hc6 (.k r r (.k r r (.k r r (.k r r (.k r r (.k r r .nil)))))) (.k r r (.k r r (.k r r (.k r r (.k r r (.k r r .nil))))))
        ·rintro ⟨l1010_7, g1_6, g2_6, g3_6, g4_6, g1010_6, g2042_6⟩ cl hy
         subst hk6
         change At _ cl (mk _ _) _
         refine frzP (f := I) (l := l1010_7) 10 1010 r r pu_I <| reg1 7 r <| fa fo32_2 r r r <| ld tk30 r r r r r r <| mv r r r <| bldsP (SL 1 I) ([l1010_7] : List (List Int)) 6 se30 r r r r r r r <| ?_
         obtain ⟨k15a, k15b, hy⟩ := apI hy
         refine apoP (f := (SL 1 I)) (l := l2042_9) (zs := [l1010_7]) se30 k15a k15b r r r r r r <| fa fo32_2 r r r <| str tk30 r r r r r r r <| dn <| at_bn <| ?_
         replace hy := sj hy
         subst hy
         refine metI ((l2042_9 ++ [l1010_7]), _, _, _, _, _) r hc5 (.k r r (.k r r (.k r r (.k r r (.k r r .nil))))) (.k r r (.k r r (.k r r (.k r r (.k r r .nil)))))
       ·rintro ⟨l2042_8, g1_5, g2_5, g3_5, g4_5, g2042_5⟩ cl hy
        subst hk5
        change At _ cl (mk _ _) _
        refine reg1 3 r <| mv r r r <| bn r r r r r <| asg r r r <| dn <| againI (n4, (w64 (v9_9 + 1)), l2042_8, _, _, _, _, _) r hy (Nat.lt_succ_self _) (.k r r (.k r r (.k r r (.k r r (.k r r .nil))))) (.k r r (.k r r (.k r r (.k r r (.k r r .nil)))))
      ·replace hy := ifF hy h7
       refine at_exit <| at_te <| at_te <| at_inBlock <| ?_
       replace hy := sj hy
       subst hy
       refine metI (l2042_9, _, _, _, _, _) r hc3 (.k r r (.k r r .nil)) (.k r r (.k r r (.k r r (.k r r (.k r r .nil)))))
     ·rintro ⟨l2042_10, g1_3, g2_3, g3_3, g4_3, g2042_3⟩ cl hy
      subst hk3
      change At _ cl (mk _ _) _
      refine reg 3 r <| ldw tk32 r r r r r r <| str tk32 r r r r r r r <| asg r r r <| dn <| at_ret <| cellF (f := I) (l := (([] : List Int) ++ a0)) 1 2 0 r r r pu_I r <| cellF (f := I) (l := (([] : List Int) ++ a1)) 1 3 1 r r r pu_I r <| cellF (f := (SL 1 I)) (l := l2042_10) 1 2042 2 r r r (pu_l 1 pu_I) r <| ?_
      replace hy := sj hy
      subst hy
      exact endZ [] (rs := [_, _]) r (by simp) (.inl r) (.cell _ _ _ _ _ _ _ _ _ _ _ _ _ r r r tk32 r (.tmp _ _ _ _ r .nil)) (by simp) (PuL.rn (xs := [(TwA (Tw.mk (([] : List Int) ++ a0) (([] : List Int) ++ a1) l2042_10)), (I 0)]) (.cons (pu_Tw _) (.cons (pu_I _) (.nil))))
def p_r14_Right (K : Nat) (a0 : Tw) : Option Bool :=
 ((p_r14_Build K a0.tokens a0.heights).bind fun r1 => (bif (r1.2 == 0) then ((p_r14_Same K r1.1 a0).bind fun r2 => some r2) else some false))
theorem w_r14_Right {K : Nat} {a0 : Tw} {y : Bool} (hy : p_r14_Right K a0 = some y) : Does PP GV 81 [] [(TwA a0)] [] [] (B y) := by
 unfold p_r14_Right at hy
 refine does_of at81 r (le_ok r) <| ?_
 rintro ⟨_, base, w0, F⟩ rfl
 refine reg 2 r <| bx 1 r r r r <| asg r r r <| dn <| reg 11 r <| fa fo32_0 r r r <| ld tk29 r r r r r r <| fa fo32_1 r r r <| ld tk29 r r r r r r <| ?_
 obtain ⟨r1, qr1, hy⟩ := bndI hy
 refine clp (w_r14_Build qr1) ca24 r r (.cons ((pu_l 1 pu_I) _) (.cons ((pu_l 1 pu_I) _) (.nil))) (.tup (.cons (pu_Tw _) (.cons (pu_I _) (.nil)))) r <| mv r r r <| ext r r r r <| ext r r r r <| rg_alloc (s := 2) (gd_of r) zc32 (elems_one (by rfl)) (lt_ok r) <| str tk32 r r r r r r r <| asg r r r <| dn <| reg 8 r <| mv r r r <| bn r r r r r <| mv r r r <| cas 15 r (fun h1 => ?_) (fun h1 => ?_)
 ·replace hy := ifT hy h1
  refine ldw tk32 r r r r r r <| ldw tk32 r r r r r r <| ?_
  obtain ⟨r2, qr2, hy⟩ := bndI hy
  refine clp (w_r14_Same qr2) ca9 r r (.cons (pu_Tw _) (.cons (pu_Tw _) (.nil))) (.one (pu_B _)) r <| pkt r r r r r <| asg r r r <| dn <| at_ret <| ?_
  replace hy := sj hy
  subst hy
  exact out1 r (.inl r) (look_of r) r (pu_B _)
 ·replace hy := ifF hy h1
  refine sk r r <| sk r r <| sk r r <| pkf r r r r r <| asg r r r <| dn <| at_ret <| ?_
  replace hy := sj hy
  subst hy
  exact out1 r (.inl r) (look_of r) r (pu_B _)
def p_r01_At (K : Nat) (a0 : (List Int)) (a1 : Int) : Option Int :=
 (bif (decide (a1 < 0)) then some 0 else (bif ((a0.length : Int) == 0) then some 0 else (nzP (a0.length : Int) ((ixP a0 (Int.tmod a1 (a0.length : Int)) fun v3 => some v3)))))
theorem w_r01_At {K : Nat} {a0 : (List Int)} {a1 : Int} {y : Int} (hy : p_r01_At K a0 a1 = some y) : Does PP GV 50 [] [((SL 1 (J .u32)) a0), (I a1)] [] [] ((J .u32) y) := by
 unfold p_r01_At at hy
 refine does_of at50 r (le_ok r) <| ?_
 rintro ⟨_, base, w0, F⟩ rfl
 refine reg 1 r <| asg r r r <| dn <| at_seq <| reg 7 r <| mv r r r <| bn r r r r r <| mv r r r <| cas 7 r (fun h1 => ?_) (fun h1 => ?_)
 ·replace hy := ifT hy h1
  refine sk r r <| sk r r <| sk r r <| pkt r r r r r <| dn <| cdt r <| reg 1 r <| asg r r r <| dn <| at_ret <| ?_
  replace hy := sj hy
  subst hy
  exact out1 r (.inl r) (look_of r) r (pu_J _ _)
 ·replace hy := ifF hy h1
  refine mv r r r <| lnf (f := (J .u32)) slB26 r r r <| bn r r r r r <| pkf r r r r r <| dn <| cd r (fun h2 => ?_) (fun h2 => ?_)
  ·replace hy := ifT hy h2
   refine reg 1 r <| asg r r r <| dn <| at_ret <| ?_
   replace hy := sj hy
   subst hy
   exact out1 r (.inl r) (look_of r) r (pu_J _ _)
  ·replace hy := ifF hy h2
   refine at_skip <| reg 8 r <| mv r r r <| mv r r r <| mv r r r <| lnf (f := (J .u32)) slB26 r r r <| ?_
   obtain ⟨k1, hy⟩ := nzI hy
   refine rm r r r r k1 <| ?_
   obtain ⟨i2, v3, qi2, xv3, hy⟩ := ixI hy
   refine fixP (f := (J .u32)) sl26 qi2 xv3 r r r r <| fld tk54 r r r r <| asg r r r <| dn <| at_ret <| ?_
   replace hy := sj hy
   subst hy
   exact out1 r (.inl r) (look_of r) r (pu_J _ _)
def p_r01_bit (K : Nat) (a0 : Int) (a1 : Int) : Option Int :=
 (bif (decide (a1 < 0)) then some 0 else (bif (decide (a1 > 31)) then some 0 else (nnP (IntKind.u64.wrap a1) (some (andV .u32 (shrV .u32 a0 (IntKind.u64.wrap a1)) 1)))))
theorem w_r01_bit {K : Nat} {a0 : Int} {a1 : Int} {y : Int} (hy : p_r01_bit K a0 a1 = some y) : Does PP GV 80 [] [((J .u32) a0), (I a1)] [] [] ((J .u32) y) := by
 unfold p_r01_bit at hy
 refine does_of at80 r (le_ok r) <| ?_
 rintro ⟨_, base, w0, F⟩ rfl
 refine reg 1 r <| asg r r r <| dn <| at_seq <| reg 6 r <| mv r r r <| bn r r r r r <| mv r r r <| cas 7 r (fun h1 => ?_) (fun h1 => ?_)
 ·replace hy := ifT hy h1
  refine sk r r <| sk r r <| pkt r r r r r <| dn <| cdt r <| reg 1 r <| asg r r r <| dn <| at_ret <| ?_
  replace hy := sj hy
  subst hy
  exact out1 r (.inl r) (look_of r) r (pu_J _ _)
 ·replace hy := ifF hy h1
  refine mv r r r <| bn r r r r r <| pkf r r r r r <| dn <| cd r (fun h2 => ?_) (fun h2 => ?_)
  ·replace hy := ifT hy h2
   refine reg 1 r <| asg r r r <| dn <| at_ret <| ?_
   replace hy := sj hy
   subst hy
   exact out1 r (.inl r) (look_of r) r (pu_J _ _)
  ·replace hy := ifF hy h2
   refine at_skip <| reg 6 r <| mv r r r <| mv r r r <| rg_conv (gd_of r) (ev_of r) us3 ui76 (lt_ok r) <| ?_
   obtain ⟨k1, hy⟩ := nnI hy
   refine shr r r r r k1 <| bn2 r r r r r <| asg r r r <| dn <| at_ret <| ?_
   replace hy := sj hy
   subst hy
   exact out1 r (.inl r) (look_of r) r (pu_J _ _)
def p_r01_Height_L1 (K : Nat) (a0 : Int) : Nat → Int → Option Int
 | 0, _ => none
 | n+1, v3_1 => (bif (decide (v3_1 < 8)) then ((p_r01_bit K a0 (w64 (v3_1 - 1))).bind fun r1 => (bif (r1 == 0) then p_r01_Height_L1 K a0 n (w64 (v3_1 + 1)) else some v3_1)) else some v3_1)
def p_r01_Height (K : Nat) (a0 : Int) : Option Int :=
 ((p_r01_Height_L1 K a0 K 1 : Option Int).bind fun v3_2 => some v3_2)
theorem w_r01_Height {K : Nat} {a0 : Int} {y : Int} (hy : p_r01_Height K a0 = some y) : Does PP GV 49 [] [((J .u32) a0)] [] [] (I y) := by
 unfold p_r01_Height at hy
 refine does_of at49 r (le_ok r) <| ?_
 rintro ⟨_, base, w0, F⟩ rfl
 refine reg 1 r <| asg r r r <| dn <| reg 1 r <| asg r r r <| dn <| ?_
 obtain ⟨o1, hy, k1, hk1, hc1⟩ := bndK hy
 refine meetI (fun (p : Int) => match p with | v3_2 => mk [(3, (I v3_2))] []) (fun p => match p with | v3_2 => k1 v3_2 = some y) ?_ ?_
 ·skip
  refine at_block <| wk (T' := [(0, ((J .u32) a0)), (3, (I 1))]) (H' := []) (.k r r (.k r r .nil)) .nil <| loopI (fun (p : Nat × Int) => match p with | (n2, v3_1) => mk [(0, ((J .u32) a0)), (3, (I v3_1))] []) (fun p => match p with | (n2, v3_1) => p_r01_Height_L1 K a0 n2 v3_1 = some o1) (fun p => p.1) ?_ (K, 1) hy _
  rintro ⟨n2, v3_1⟩ cl hy
  cases n2 with | zero => cases hy | succ n2 => ?_
  change At _ cl (mk _ _) _
  replace hy : p_r01_Height_L1 K a0 (n2+1) v3_1 = some o1 := hy
  rw [p_r01_Height_L1] at hy
  refine at_seq <| reg 9 r <| mv r r r <| bn r r r r r <| mv r r r <| cas 6 r (fun h3 => ?_) (fun h3 => ?_)
  ·replace hy := ifT hy h3
   refine mv r r r <| mv r r r <| bn r r r r r <| ?_
   obtain ⟨r1, qr1, hy⟩ := bndI hy
   refine clp (w_r01_bit qr1) ca80 r r (.cons (pu_J _ _) (.cons (pu_I _) (.nil))) (.one (pu_J _ _)) r <| bn r r r r r <| pkt r r r r r <| dn <| cd r (fun h4 => ?_) (fun h4 => ?_)
   ·replace hy := ifT hy h4
    refine at_skip <| at_block <| reg1 3 r <| mv r r r <| bn r r r r r <| asg r r r <| dn <| at_bn <| againI (n2, (w64 (v3_1 + 1))) r hy (Nat.lt_succ_self _) (.k r r (.k r r .nil)) .nil
   ·replace hy := ifF hy h4
    refine at_exit <| at_te <| at_te <| at_inBlock <| ?_
    replace hy := sj hy
    subst hy
    refine metI v3_1 r hc1 (.k r r .nil) .nil
  ·replace hy := ifF hy h3
   refine sk r r <| sk r r <| sk r r <| sk r r <| sk r r <| pkf r r r r r <| dn <| cdf r <| at_exit <| at_te <| at_te <| at_inBlock <| ?_
   replace hy := sj hy
   subst hy
   refine metI v3_1 r hc1 (.k r r .nil) .nil
 ·rintro v3_2 cl hy
  subst hk1
  change At _ cl (mk _ _) _
  refine reg 2 r <| mv r r r <| asg r r r <| dn <| at_ret <| ?_
  replace hy := sj hy
  subst hy
  exact out1 r (.inl r) (look_of r) r (pu_I _)
def p_r14_Heights_L1 (K : Nat) (a0 : (List Int)) (a1 : (List Int)) : Nat → Int → (List Int) → Option (List Int)
 | 0, _, _ => none
 | n+1, v6_2, l1005_2 => (bif (decide (v6_2 < (a0.length : Int))) then (((ixP a0 v6_2 fun v2 => (bif (decide (v2 ≥ 0)) then (ixP a0 v6_2 fun v4 => ((p_r01_At K a1 v4).bind fun r5 => ((p_r01_Height K r5).bind fun r6 => some r6))) else some 1)) : Option Int).bind fun v7_1 => (apP 8 l1005_2.length [v7_1].length (p_r14_Heights_L1 K a0 a1 n (w64 (v6_2 + 1)) (l1005_2 ++ [v7_1])))) else some l1005_2)
def p_r14_Heights (K : Nat) (a0 : (List Int)) (a1 : (List Int)) : Option (List Int) :=
 ((p_r14_Heights_L1 K a0 a1 K 0 [] : Option (List Int)).bind fun l1005_3 => some l1005_3)
theorem w_r14_Heights {K : Nat} {a0 : (List Int)} {a1 : (List Int)} {y : (List Int)} (hy : p_r14_Heights K a0 a1 = some y) : Does PP GV 25 [] [((SL 1 I) a0), ((SL 1 (J .u32)) a1)] [] [] ((SL 1 I) y) := by
 unfold p_r14_Heights at hy
 refine does_of at25 r (le_ok r) <| ?_
 rintro ⟨_, base, w0, F⟩ rfl
 refine reg 1 r <| asg r r r <| dn <| reg 1 r <| asg r r r <| dn <| ?_
 obtain ⟨o1, hy, k1, hk1, hc1⟩ := bndK hy
 refine meetI (fun (p : (List Int) × Nat) => match p with | (l1005_3, g1005_1) => mk [(5, .own 1005 g1005_1 1 0 (l1005_3).length false)] [(1005, some (g1005_1, .buf 1 (l1005_3.map I)))]) (fun p => match p with | (l1005_3, g1005_1) => k1 l1005_3 = some y) ?_ ?_
 ·skip
  refine reg 1 r <| asg r r r <| dn <| at_block <| niloP (I) 5 1005 1 r <| wk (T' := [(0, ((SL 1 I) a0)), (1, ((SL 1 (J .u32)) a1)), (5, .own 1005 _ 1 0 ([]).length false), (6, (I 0))]) (H' := [(1005, some (_, .buf 1 ([].map I)))]) (.k r r (.k r r (.k r r (.k r r .nil)))) (.k r r .nil) <| loopI (fun (p : Nat × Int × (List Int) × Nat) => match p with | (n2, v6_2, l1005_2, g1005_2) => mk [(0, ((SL 1 I) a0)), (1, ((SL 1 (J .u32)) a1)), (5, .own 1005 g1005_2 1 0 (l1005_2).length false), (6, (I v6_2))] [(1005, some (g1005_2, .buf 1 (l1005_2.map I)))]) (fun p => match p with | (n2, v6_2, l1005_2, g1005_2) => p_r14_Heights_L1 K a0 a1 n2 v6_2 l1005_2 = some o1) (fun p => p.1) ?_ (K, 0, [], _) hy _
  rintro ⟨n2, v6_2, l1005_2, g1005_2⟩ cl hy
  cases n2 with | zero => cases hy | succ n2 => ?_
  change At _ cl (mk _ _) _
  replace hy : p_r14_Heights_L1 K a0 a1 (n2+1) v6_2 l1005_2 = some o1 := hy
  rw [p_r14_Heights_L1] at hy
  refine at_seq <| reg 4 r <| mv r r r <| mv r r r <| lnf (f := I) slB29 r r r <| bn r r r r r <| dn <| cd r (fun h3 => ?_) (fun h3 => ?_)
  ·replace hy := ifT hy h3
   refine at_skip <| at_seq <| at_block <| reg 1 r <| asg r r r <| dn <| ?_
   obtain ⟨o3, hy, k3, hk3, hc3⟩ := bndK hy
   refine meetI (fun (p : Int × Nat) => match p with | (v7_1, g1005_3) => mk [(0, ((SL 1 I) a0)), (1, ((SL 1 (J .u32)) a1)), (5, .own 1005 g1005_3 1 0 (l1005_2).length false), (6, (I v6_2)), (7, (I v7_1))] [(1005, some (g1005_3, .buf 1 (l1005_2.map I)))]) (fun p => match p with | (v7_1, g1005_3) => k3 v7_1 = some o1) ?_ ?_
   ·skip
    refine reg 5 r <| mv r r r <| mv r r r <| ?_
    obtain ⟨i1, v2, qi1, xv2, hy⟩ := ixI hy
    refine fixP (f := I) sl29 qi1 xv2 r r r r <| fld tk3 r r r r <| bn r r r r r <| dn <| cd r (fun h5 => ?_) (fun h5 => ?_)
    ·replace hy := ifT hy h5
     refine reg1 8 r <| mv r r r <| mv r r r <| mv r r r <| ?_
     obtain ⟨i3, v4, qi3, xv4, hy⟩ := ixI hy
     refine fixP (f := I) sl29 qi3 xv4 r r r r <| fld tk3 r r r r <| ?_
     obtain ⟨r5, qr5, hy⟩ := bndI hy
     refine clp (w_r01_At qr5) ca50 r r (.cons ((pu_l 1 (pu_J _)) _) (.cons (pu_I _) (.nil))) (.one (pu_J _ _)) r <| ?_
     obtain ⟨r6, qr6, hy⟩ := bndI hy
     refine clp (w_r01_Height qr6) ca49 r r (.cons (pu_J _ _) (.nil)) (.one (pu_I _)) r <| asg r r r <| dn <| ?_
     replace hy := sj hy
     subst hy
     refine metI (r6, _) r hc3 (.k r r (.k r r (.k r r (.k r r (.k r r .nil))))) (.k r r .nil)
    ·replace hy := ifF hy h5
     refine at_skip <| ?_
     replace hy := sj hy
     subst hy
     refine metI (1, _) r hc3 (.k r r (.k r r (.k r r (.k r r (.k r r .nil))))) (.k r r .nil)
   ·rintro ⟨v7_1, g1005_3⟩ cl hy
    subst hk3
    change At _ cl (mk _ _) _
    refine reg1 5 r <| mv r r r <| mv r r r <| bldsP I ([v7_1] : List Int) 1 se29 r r r r r r r <| ?_
    obtain ⟨k7a, k7b, hy⟩ := apI hy
    refine apoP (f := I) (l := l1005_2) (zs := [v7_1]) se29 k7a k7b r r r r r r <| asg r r r <| dn <| at_bn <| reg1 3 r <| mv r r r <| bn r r r r r <| asg r r r <| dn <| againI (n2, (w64 (v6_2 + 1)), (l1005_2 ++ [v7_1]), _) r hy (Nat.lt_succ_self _) (.k r r (.k r r (.k r r (.k r r .nil)))) (.k r r .nil)
  ·replace hy := ifF hy h3
   refine at_exit <| at_te <| at_te <| at_inBlock <| ?_
   replace hy := sj hy
   subst hy
   refine metI (l1005_2, _) r hc1 (.k r r .nil) (.k r r .nil)
 ·rintro ⟨l1005_3, g1005_1⟩ cl hy
  subst hk1
  change At _ cl (mk _ _) _
  refine reg 2 r <| mv r r r <| asg r r r <| dn <| at_ret <| frzP (f := I) (l := l1005_3) 4 1005 r r pu_I <| ?_
  replace hy := sj hy
  subst hy
  exact out1 r (.inl r) (look_of r) r ((pu_l 1 pu_I) _)
def p_r16_may (K : Nat) (a0 : Int) : Option Bool :=
 (bif (decide (a0 ≥ (-1073741824))) then some (decide (a0 ≤ 1073741824)) else some false)
theorem w_r16_may {K : Nat} {a0 : Int} {y : Bool} (hy : p_r16_may K a0 = some y) : Does PP GV 82 [] [(I a0)] [] [] (B y) := by
 unfold p_r16_may at hy
 refine does_of at82 r (le_ok r) <| ?_
 rintro ⟨_, base, w0, F⟩ rfl
 refine reg 1 r <| asg r r r <| dn <| reg 7 r <| mv r r r <| bn r r r r r <| mv r r r <| cas 5 r (fun h1 => ?_) (fun h1 => ?_)
 ·replace hy := ifT hy h1
  refine mv r r r <| bn r r r r r <| pkt r r r r r <| asg r r r <| dn <| at_ret <| ?_
  replace hy := sj hy
  subst hy
  exact out1 r (.inl r) (look_of r) r (pu_B _)
 ·replace hy := ifF hy h1
  refine sk r r <| sk r r <| pkf r r r r r <| asg r r r <| dn <| at_ret <| ?_
  replace hy := sj hy
  subst hy
  exact out1 r (.inl r) (look_of r) r (pu_B _)
def p_r16_Build_L1 (K : Nat) (a0 : Tw) (a1 : (List Int)) : Nat → Int → Option (Sum Unit ((List (List Int)) × Int))
 | 0, _ => none
 | n+1, v7_1 => (bif (decide (v7_1 < (a0.tokens.length : Int))) then (ixP a1 v7_1 fun v3 => ((p_r16_may K v3).bind fun r4 => (bif (!r4) then some (.inr ([], 1)) else p_r16_Build_L1 K a0 a1 n (w64 (v7_1 + 1))))) else some (.inl ()))
def p_r16_Build_L4 (K : Nat) (a0 : Tw) (v9_9 : Int) (v11_6 : Int) (a1 : (List Int)) : Nat → Int → Int → Option Int
 | 0, _, _ => none
 | n+1, v12_3, v13_3 => (ixP a0.next v9_9 fun v11 => (ixP v11 v11_6 fun v13 => (bif (v13_3 != v13) then (ixP a1 v13_3 fun v15 => (nzP (a0.tokens.length : Int) (p_r16_Build_L4 K a0 v9_9 v11_6 a1 n (w64 (v12_3 + v15)) (Int.tmod (w64 (v13_3 + 1)) (a0.tokens.length : Int))))) else some v12_3)))
def p_r16_Build_L3 (K : Nat) (a0 : Tw) (v9_9 : Int) (a1 : (List Int)) : Nat → Int → (List Int) → Option (List Int)
 | 0, _, _ => none
 | n+1, v11_6, l1010_6 => (ixP a0.next v9_9 fun v6 => (bif (decide (v11_6 < (v6.length : Int))) then (((ixP a1 v9_9 fun v8 => (((nzP (a0.tokens.length : Int) (p_r16_Build_L4 K a0 v9_9 v11_6 a1 K v8 (Int.tmod (w64 (v9_9 + 1)) (a0.tokens.length : Int)))) : Option Int).bind fun v12_4 => (apP 8 l1010_6.length [v12_4].length (some (l1010_6 ++ [v12_4]))))) : Option (List Int)).bind fun l1010_5 => p_r16_Build_L3 K a0 v9_9 a1 n (w64 (v11_6 + 1)) l1010_5) else some l1010_6))
def p_r16_Build_L2 (K : Nat) (a0 : Tw) (a1 : (List Int)) : Nat → Int → (List (List Int)) → Option (List (List Int))
 | 0, _, _ => none
 | n+1, v9_9, l1008_9 => (bif (decide (v9_9 < (a0.tokens.length : Int))) then ((((p_r16_Build_L3 K a0 v9_9 a1 K 0 [] : Option (List Int)).bind fun l1010_7 => (apP 24 l1008_9.length [l1010_7].length (some (l1008_9 ++ [l1010_7])))) : Option (List (List Int))).bind fun l1008_8 => p_r16_Build_L2 K a0 a1 n (w64 (v9_9 + 1)) l1008_8) else some l1008_9)
def p_r16_Build (K : Nat) (a0 : Tw) (a1 : (List Int)) : Option ((List (List Int)) × Int) :=
 ((p_r14_Right K a0).bind fun r1 => (bif (!r1) then some ([], 1) else (bif ((a1.length : Int) != (a0.tokens.length : Int)) then some ([], 1) else ((p_r16_Build_L1 K a0 a1 K 0 : Option (Sum Unit ((List (List Int)) × Int))).bind fun | .inl _ => ((p_r16_Build_L2 K a0 a1 K 0 [] : Option (List (List Int))).bind fun l1008_10 => some (l1008_10, 0)) | .inr r => some r))))
theorem w_r16_Build {K : Nat} {a0 : Tw} {a1 : (List Int)} {y : ((List (List Int)) × Int)} (hy : p_r16_Build K a0 a1 = some y) : Does PP GV 52 [] [(TwA a0), ((SL 1 I) a1)] [] [] (.tup [((SL 1 (SL 1 I)) y.1), (I y.2)]) := by
 unfold p_r16_Build at hy
 refine does_of at52 r (le_ok r) <| ?_
 rintro ⟨_, base, w0, F⟩ rfl
 refine reg 3 r <| bx 1 r r r r <| asg r r r <| asg r r r <| dn <| reg 4 r <| fa fo32_0 r r r <| ld tk29 r r r r r r <| lnf (f := I) slB29 r r r <| asg r r r <| dn <| at_seq <| reg 9 r <| ldw tk32 r r r r r r <| ?_
 obtain ⟨r1, qr1, hy⟩ := bndI hy
 refine clp (w_r14_Right qr1) ca81 r r (.cons (pu_Tw _) (.nil)) (.one (pu_B _)) r <| nt r r r <| mv r r r <| cas 20 r (fun h1 => ?_) (fun h1 => ?_)
 ·replace hy := ifT hy h1
  refine sk r r <| sk r r <| sk r r <| sk r r <| pkt r r r r r <| dn <| cdt r <| reg 2 r <| asg r r r <| asg r r r <| dn <| at_ret <| atnilP ((SL 1 I)) 4 1 r <| ?_
  replace hy := sj hy
  subst hy
  exact outs (rs := [4, 5]) (res2 r) (by simp) (.inl r) (looks_of r) r (.cons ((pu_l 1 (pu_l 1 pu_I)) _) (.cons (pu_I _) (.nil)))
 ·replace hy := ifF hy h1
  refine mv r r r <| lnf (f := I) slB29 r r r <| mv r r r <| bn r r r r r <| pkf r r r r r <| dn <| cd r (fun h2 => ?_) (fun h2 => ?_)
  ·replace hy := ifT hy h2
   refine reg 2 r <| asg r r r <| asg r r r <| dn <| at_ret <| atnilP ((SL 1 I)) 4 1 r <| ?_
   replace hy := sj hy
   subst hy
   exact outs (rs := [4, 5]) (res2 r) (by simp) (.inl r) (looks_of r) r (.cons ((pu_l 1 (pu_l 1 pu_I)) _) (.cons (pu_I _) (.nil)))
  ·replace hy := ifF hy h2
   refine at_skip <| ?_
   obtain ⟨o1, hy, k1, hk1, hc1⟩ := bndK hy
   refine meetI (fun (p : Nat) => match p with | g1_1 => mk [(1, ((SL 1 I) a1)), (2, .ptr 1 g1_1 0 0), (6, (I (a0.tokens.length : Int)))] [(1, some (g1_1, .buf 3 [.agg [((SL 1 I) a0.tokens), ((SL 1 I) a0.heights), ((SL 1 (SL 1 I)) a0.next)]]))]) (fun p => match p with | g1_1 => k1 (.inl ()) = some y) ?_ ?_
   ·skip
    refine reg 1 r <| asg r r r <| dn <| at_block <| wk (T' := [(1, ((SL 1 I) a1)), (2, .ptr 1 _ 0 0), (6, (I (a0.tokens.length : Int))), (7, (I 0))]) (H' := [(1, some (_, .buf 3 [.agg [((SL 1 I) a0.tokens), ((SL 1 I) a0.heights), ((SL 1 (SL 1 I)) a0.next)]]))]) (.k r r (.k r r (.k r r (.k r r .nil)))) (.k r r .nil) <| loopI (fun (p : Nat × Int × Nat) => match p with | (n2, v7_1, g1_2) => mk [(1, ((SL 1 I) a1)), (2, .ptr 1 g1_2 0 0), (6, (I (a0.tokens.length : Int))), (7, (I v7_1))] [(1, some (g1_2, .buf 3 [.agg [((SL 1 I) a0.tokens), ((SL 1 I) a0.heights), ((SL 1 (SL 1 I)) a0.next)]]))]) (fun p => match p with | (n2, v7_1, g1_2) => p_r16_Build_L1 K a0 a1 n2 v7_1 = some o1) (fun p => p.1) ?_ (K, 0, _) hy _
    rintro ⟨n2, v7_1, g1_2⟩ cl hy
    cases n2 with | zero => cases hy | succ n2 => ?_
    change At _ cl (mk _ _) _
    replace hy : p_r16_Build_L1 K a0 a1 (n2+1) v7_1 = some o1 := hy
    rw [p_r16_Build_L1] at hy
    refine at_seq <| reg 3 r <| mv r r r <| mv r r r <| bn r r r r r <| dn <| cd r (fun h5 => ?_) (fun h5 => ?_)
    ·replace hy := ifT hy h5
     refine at_skip <| at_seq <| at_block <| reg 6 r <| mv r r r <| mv r r r <| ?_
     obtain ⟨i2, v3, qi2, xv3, hy⟩ := ixI hy
     refine fixP (f := I) sl29 qi2 xv3 r r r r <| fld tk3 r r r r <| ?_
     obtain ⟨r4, qr4, hy⟩ := bndI hy
     refine clp (w_r16_may qr4) ca82 r r (.cons (pu_I _) (.nil)) (.one (pu_B _)) r <| nt r r r <| dn <| cd r (fun h6 => ?_) (fun h6 => ?_)
     ·replace hy := ifT hy h6
      refine reg 2 r <| asg r r r <| asg r r r <| dn <| at_ret <| atnilP ((SL 1 I)) 4 1 r <| ?_
      replace hy := sj hy
      subst hy
      subst hk1
      replace hc1 := Option.some.inj hc1
      subst hc1
      exact outs (rs := [4, 5]) (res2 r) (by simp) (.inl r) (looks_of r) r (.cons ((pu_l 1 (pu_l 1 pu_I)) _) (.cons (pu_I _) (.nil)))
     ·replace hy := ifF hy h6
      refine at_skip <| at_bn <| reg1 3 r <| mv r r r <| bn r r r r r <| asg r r r <| dn <| againI (n2, (w64 (v7_1 + 1)), _) r hy (Nat.lt_succ_self _) (.k r r (.k r r (.k r r (.k r r .nil)))) (.k r r .nil)
    ·replace hy := ifF hy h5
     refine at_exit <| at_te <| at_te <| at_inBlock <| ?_
     replace hy := sj hy
     subst hy
     refine metI _ r hc1 (.k r r (.k r r (.k r r .nil))) (.k r r .nil)
   ·rintro g1_1 cl hy
    subst hk1
    change At _ cl (mk _ _) _
    refine reg 1 r <| asg r r r <| dn <| ?_
    obtain ⟨o3, hy, k3, hk3, hc3⟩ := bndK hy
    refine meetI (fun (p : (List (List Int)) × Nat) => match p with | (l1008_10, g1008_3) => mk [(8, .own 1008 g1008_3 1 0 (l1008_10).length false)] [(1008, some (g1008_3, .buf 1 (l1008_10.map (SL 1 I))))]) (fun p => match p with | (l1008_10, g1008_3) => k3 l1008_10 = some y) ?_ ?_
    ·skip
     refine reg 1 r <| asg r r r <| dn <| at_block <| niloP ((SL 1 I)) 8 1008 1 r <| wk (T' := [(1, ((SL 1 I) a1)), (2, .ptr 1 _ 0 0), (6, (I (a0.tokens.length : Int))), (8, .own 1008 _ 1 0 ([]).length false), (9, (I 0))]) (H' := [(1, some (_, .buf 3 [.agg [((SL 1 I) a0.tokens), ((SL 1 I) a0.heights), ((SL 1 (SL 1 I)) a0.next)]])), (1008, some (_, .buf 1 ([].map (SL 1 I))))]) (.k r r (.k r r (.k r r (.k r r (.k r r .nil))))) (.k r r (.k r r .nil)) <| loopI (fun (p : Nat × Int × (List (List Int)) × Nat × Nat) => match p with | (n4, v9_9, l1008_9, g1_4, g1008_4) => mk [(1, ((SL 1 I) a1)), (2, .ptr 1 g1_4 0 0), (6, (I (a0.tokens.length : Int))), (8, .own 1008 g1008_4 1 0 (l1008_9).length false), (9, (I v9_9))] [(1, some (g1_4, .buf 3 [.agg [((SL 1 I) a0.tokens), ((SL 1 I) a0.heights), ((SL 1 (SL 1 I)) a0.next)]])), (1008, some (g1008_4, .buf 1 (l1008_9.map (SL 1 I))))]) (fun p => match p with | (n4, v9_9, l1008_9, g1_4, g1008_4) => p_r16_Build_L2 K a0 a1 n4 v9_9 l1008_9 = some o3) (fun p => p.1) ?_ (K, 0, [], _, _) hy _
     rintro ⟨n4, v9_9, l1008_9, g1_4, g1008_4⟩ cl hy
     cases n4 with | zero => cases hy | succ n4 => ?_
     change At _ cl (mk _ _) _
     replace hy : p_r16_Build_L2 K a0 a1 (n4+1) v9_9 l1008_9 = some o3 := hy
     rw [p_r16_Build_L2] at hy
     refine at_seq <| reg 3 r <| mv r r r <| mv r r r <| bn r r r r r <| dn <| cd r (fun h6 => ?_) (fun h6 => ?_)
     ·replace hy := ifT hy h6
      refine at_skip <| ?_
      obtain ⟨o5, hy, k5, hk5, hc5⟩ := bndK hy
      refine meetI (fun (p : (List (List Int)) × Nat × Nat) => match p with | (l1008_8, g1_5, g1008_5) => mk [(1, ((SL 1 I) a1)), (2, .ptr 1 g1_5 0 0), (6, (I (a0.tokens.length : Int))), (8, .own 1008 g1008_5 1 0 (l1008_8).length false), (9, (I v9_9))] [(1, some (g1_5, .buf 3 [.agg [((SL 1 I) a0.tokens), ((SL 1 I) a0.heights), ((SL 1 (SL 1 I)) a0.next)]])), (1008, some (g1008_5, .buf 1 (l1008_8.map (SL 1 I))))]) (fun p => match p with | (l1008_8, g1_5, g1008_5) => k5 l1008_8 = some o3) ?_ ?_
      ·skip
       refine at_block <| reg 1 r <| asg r r r <| dn <| ?_
       obtain ⟨o6, hy, k6, hk6, hc6⟩ := bndK hy
       refine meetI (fun (p : (List Int) × Nat × Nat × Nat) => match p with | (l1010_7, g1_6, g1008_6, g1010_6) => mk [(1, ((SL 1 I) a1)), (2, .ptr 1 g1_6 0 0), (6, (I (a0.tokens.length : Int))), (8, .own 1008 g1008_6 1 0 (l1008_9).length false), (9, (I v9_9)), (10, .own 1010 g1010_6 1 0 (l1010_7).length false)] [(1, some (g1_6, .buf 3 [.agg [((SL 1 I) a0.tokens), ((SL 1 I) a0.heights), ((SL 1 (SL 1 I)) a0.next)]])), (1008, some (g1008_6, .buf 1 (l1008_9.map (SL 1 I)))), (1010, some (g1010_6, .buf 1 (l1010_7.map I)))]) (fun p => match p with | (l1010_7, g1_6, g1008_6, g1010_6) => k6 l1010_7 = some o5) ?_ ?_
       ·skip
        refine reg 1 r <| asg r r r <| dn <| at_block <| niloP (I) 10 1010 1 r <| wk (T' := [(1, ((SL 1 I) a1)), (2, .ptr 1 _ 0 0), (6, (I (a0.tokens.length : Int))), (8, .own 1008 _ 1 0 (l1008_9).length false), (9, (I v9_9)), (10, .own 1010 _ 1 0 ([]).length false), (11, (I 0))]) (H' := [(1, some (_, .buf 3 [.agg [((SL 1 I) a0.tokens), ((SL 1 I) a0.heights), ((SL 1 (SL 1 I)) a0.next)]])), (1008, some (_, .buf 1 (l1008_9.map (SL 1 I)))), (1010, some (_, .buf 1 ([].map I)))]) (.k r r (.k r r (.k r r (.k r r (.k r r (.k r r (.k r r .nil))))))) (.k r r (.k r r (.k r r .nil))) <| loopI (fun (p : Nat × Int × (List Int) × Nat × Nat × Nat) => match p with | (n7, v11_6, l1010_6, g1_7, g1008_7, g1010_7) => mk [(1, ((SL 1 I) a1)), (2, .ptr 1 g1_7 0 0), (6, (I (a0.tokens.length : Int))), (8, .own 1008 g1008_7 1 0 (l1008_9).length false), (9, (I v9_9)), (10, .own 1010 g1010_7 1 0 (l1010_6).length false), (11, (I v11_6))] [(1, some (g1_7, .buf 3 [.agg [((SL 1 I) a0.tokens), ((SL 1 I) a0.heights), ((SL 1 (SL 1 I)) a0.next)]])), (1008, some (g1008_7, .buf 1 (l1008_9.map (SL 1 I)))), (1010, some (g1010_7, .buf 1 (l1010_6.map I)))]) (fun p => match p with | (n7, v11_6, l1010_6, g1_7, g1008_7, g1010_7) => p_r16_Build_L3 K a0 v9_9 a1 n7 v11_6 l1010_6 = some o6) (fun p => p.1) ?_ (K, 0, [], _, _, _) hy _
        rintro ⟨n7, v11_6, l1010_6, g1_7, g1008_7, g1010_7⟩ cl hy
        cases n7 with | zero => cases hy | succ n7 => ?_
        change At _ cl (mk _ _) _
        replace hy : p_r16_Build_L3 K a0 v9_9 a1 (n7+1) v11_6 l1010_6 = some o6 := hy
        rw [p_r16_Build_L3] at hy
        refine at_seq <| reg 8 r <| mv r r r <| fa fo32_2 r r r <| ld tk30 r r r r r r <| mv r r r <| ?_
        obtain ⟨i5, v6, qi5, xv6, hy⟩ := ixI hy
        refine fixP (f := (SL 1 I)) sl30 qi5 xv6 r r r r <| fld tk29 r r r r <| lnf (f := I) slB29 r r r <| bn r r r r r <| dn <| cd r (fun h10 => ?_) (fun h10 => ?_)
        ·replace hy := ifT hy h10
         refine at_skip <| ?_
         obtain ⟨o8, hy, k8, hk8, hc8⟩ := bndK hy
         refine meetI (fun (p : (List Int) × Nat × Nat × Nat) => match p with | (l1010_5, g1_8, g1008_8, g1010_8) => mk [(1, ((SL 1 I) a1)), (2, .ptr 1 g1_8 0 0), (6, (I (a0.tokens.length : Int))), (8, .own 1008 g1008_8 1 0 (l1008_9).length false), (9, (I v9_9)), (10, .own 1010 g1010_8 1 0 (l1010_5).length false), (11, (I v11_6))] [(1, some (g1_8, .buf 3 [.agg [((SL 1 I) a0.tokens), ((SL 1 I) a0.heights), ((SL 1 (SL 1 I)) a0.next)]])), (1008, some (g1008_8, .buf 1 (l1008_9.map (SL 1 I)))), (1010, some (g1010_8, .buf 1 (l1010_5.map I)))]) (fun p => match p with | (l1010_5, g1_8, g1008_8, g1010_8) => k8 l1010_5 = some o6) ?_ ?_
         ·skip
          refine at_block <| reg 5 r <| mv r r r <| mv r r r <| ?_
          obtain ⟨i7, v8, qi7, xv8, hy⟩ := ixI hy
          refine fixP (f := I) sl29 qi7 xv8 r r r r <| fld tk3 r r r r <| asg r r r <| dn <| ?_
          obtain ⟨o9, hy, k9, hk9, hc9⟩ := bndK hy
          refine meetI (fun (p : Int × Nat × Nat × Nat) => match p with | (v12_4, g1_9, g1008_9, g1010_9) => mk [(1, ((SL 1 I) a1)), (2, .ptr 1 g1_9 0 0), (6, (I (a0.tokens.length : Int))), (8, .own 1008 g1008_9 1 0 (l1008_9).length false), (9, (I v9_9)), (10, .own 1010 g1010_9 1 0 (l1010_6).length false), (11, (I v11_6)), (12, (I v12_4))] [(1, some (g1_9, .buf 3 [.agg [((SL 1 I) a0.tokens), ((SL 1 I) a0.heights), ((SL 1 (SL 1 I)) a0.next)]])), (1008, some (g1008_9, .buf 1 (l1008_9.map (SL 1 I)))), (1010, some (g1010_9, .buf 1 (l1010_6.map I)))]) (fun p => match p with | (v12_4, g1_9, g1008_9, g1010_9) => k9 v12_4 = some o8) ?_ ?_
          ·skip
           refine reg 5 r <| mv r r r <| bn r r r r r <| mv r r r <| ?_
           obtain ⟨k9, hy⟩ := nzI hy
           refine rm r r r r k9 <| asg r r r <| dn <| at_block <| wk (T' := [(1, ((SL 1 I) a1)), (2, .ptr 1 _ 0 0), (6, (I (a0.tokens.length : Int))), (8, .own 1008 _ 1 0 (l1008_9).length false), (9, (I v9_9)), (10, .own 1010 _ 1 0 (l1010_6).length false), (11, (I v11_6)), (12, (I v8)), (13, (I (Int.tmod (w64 (v9_9 + 1)) (a0.tokens.length : Int))))]) (H' := [(1, some (_, .buf 3 [.agg [((SL 1 I) a0.tokens), ((SL 1 I) a0.heights), ((SL 1 (SL 1 I)) a0.next)]])), (1008, some (_, .buf 1 (l1008_9.map (SL 1 I)))), (1010, some (_, .buf 1 (l1010_6.map I)))]) (.k r r (.k r r (.k r r (.k r r (.k r r (.k r r (.k r r (.k r r (.k r r .nil))))))))) (.k r r (.k r r (.k r r .nil))) <| loopI (fun (p : Nat × Int × Int × Nat × Nat × Nat) => match p with | (n10, v12_3, v13_3, g1_10, g1008_10, g1010_10) => mk [(1, ((SL 1 I) a1)), (2, .ptr 1 g1_10 0 0), (6, (I (a0.tokens.length : Int))), (8, .own 1008 g1008_10 1 0 (l1008_9).length false), (9, (I v9_9)), (10, .own 1010 g1010_10 1 0 (l1010_6).length false), (11, (I v11_6)), (12, (I v12_3)), (13, (I v13_3))] [(1, some (g1_10, .buf 3 [.agg [((SL 1 I) a0.tokens), ((SL 1 I) a0.heights), ((SL 1 (SL 1 I)) a0.next)]])), (1008, some (g1008_10, .buf 1 (l1008_9.map (SL 1 I)))), (1010, some (g1010_10, .buf 1 (l1010_6.map I)))]) (fun p => match p with | (n10, v12_3, v13_3, g1_10, g1008_10, g1010_10) => p_r16_Build_L4 K a0 v9_9 v11_6 a1 n10 v12_3 v13_3 = some o9) (fun p => p.1) ?_ (K, v8, (Int.tmod (w64 (v9_9 + 1)) (a0.tokens.length : Int)), _, _, _) hy _
           rintro ⟨n10, v12_3, v13_3, g1_10, g1008_10, g1010_10⟩ cl hy
           cases n10 with | zero => cases hy | succ n10 => ?_
           change At _ cl (mk _ _) _
           replace hy : p_r16_Build_L4 K a0 v9_9 v11_6 a1 (n10+1) v12_3 v13_3 = some o9 := hy
           rw [p_r16_Build_L4] at hy
           refine at_seq <| reg 10 r <| mv r r r <| fa fo32_2 r r r <| ld tk30 r r r r r r <| mv r r r <| ?_
           obtain ⟨i10, v11, qi10, xv11, hy⟩ := ixI hy
           refine fixP (f := (SL 1 I)) sl30 qi10 xv11 r r r r <| fld tk29 r r r r <| mv r r r <| ?_
           obtain ⟨i12, v13, qi12, xv13, hy⟩ := ixI hy
           refine fixP (f := I) sl29 qi12 xv13 r r r r <| fld tk3 r r r r <| bn r r r r r <| dn <| cd r (fun h14 => ?_) (fun h14 => ?_)
           ·replace hy := ifT hy h14
            refine at_skip <| at_seq <| at_block <| reg1 7 r <| mv r r r <| mv r r r <| mv r r r <| ?_
            obtain ⟨i14, v15, qi14, xv15, hy⟩ := ixI hy
            refine fixP (f := I) sl29 qi14 xv15 r r r r <| fld tk3 r r r r <| bn r r r r r <| asg r r r <| dn <| at_bn <| reg1 5 r <| mv r r r <| bn r r r r r <| mv r r r <| ?_
            obtain ⟨k16, hy⟩ := nzI hy
            refine rm r r r r k16 <| asg r r r <| dn <| againI (n10, (w64 (v12_3 + v15)), (Int.tmod (w64 (v13_3 + 1)) (a0.tokens.length : Int)), _, _, _) r hy (Nat.lt_succ_self _) (.k r r (.k r r (.k r r (.k r r (.k r r (.k r r (.k r r (.k r r (.k r r .nil))))))))) (.k r r (.k r r (.k r r .nil)))
           ·replace hy := ifF hy h14
            refine at_exit <| at_te <| at_te <| at_inBlock <| ?_
            replace hy := sj hy
            subst hy
            refine metI (v12_3, _, _, _) r hc9 (.k r r (.k r r (.k r r (.k r r (.k r r (.k r r (.k r r (.k r r .nil)))))))) (.k r r (.k r r (.k r r .nil)))
          ·rintro ⟨v12_4, g1_9, g1008_9, g1010_9⟩ cl hy
           subst hk9
           change At _ cl (mk _ _) _
           refine reg1 5 r <| mv r r r <| mv r r r <| bldsP I ([v12_4] : List Int) 2 se29 r r r r r r r <| ?_
           obtain ⟨k17a, k17b, hy⟩ := apI hy
           refine apoP (f := I) (l := l1010_6) (zs := [v12_4]) se29 k17a k17b r r r r r r <| asg r r r <| dn <| at_bn <| ?_
           replace hy := sj hy
           subst hy
           refine metI ((l1010_6 ++ [v12_4]), _, _, _) r hc8 (.k r r (.k r r (.k r r (.k r r (.k r r (.k r r (.k r r .nil))))))) (.k r r (.k r r (.k r r .nil)))
         ·rintro ⟨l1010_5, g1_8, g1008_8, g1010_8⟩ cl hy
          subst hk8
          change At _ cl (mk _ _) _
          refine reg1 3 r <| mv r r r <| bn r r r r r <| asg r r r <| dn <| againI (n7, (w64 (v11_6 + 1)), l1010_5, _, _, _) r hy (Nat.lt_succ_self _) (.k r r (.k r r (.k r r (.k r r (.k r r (.k r r (.k r r .nil))))))) (.k r r (.k r r (.k r r .nil)))
        ·replace hy := ifF hy h10
         refine at_exit <| at_te <| at_te <| at_inBlock <| ?_
         replace hy := sj hy
         subst hy
         refine metI (l1010_6, _, _, _) r hc6 (.k r r (.k r r (.k r r (.k r r (.k r r (.k r r .nil)))))) (.k r r (.k r r (.k r r .nil)))
       ·rintro ⟨l1010_7, g1_6, g1008_6, g1010_6⟩ cl hy
        subst hk6
        change At _ cl (mk _ _) _
        refine frzP (f := I) (l := l1010_7) 10 1010 r r pu_I <| reg1 5 r <| mv r r r <| mv r r r <| bldsP (SL 1 I) ([l1010_7] : List (List Int)) 3 se30 r r r r r r r <| ?_
        obtain ⟨k18a, k18b, hy⟩ := apI hy
        refine apoP (f := (SL 1 I)) (l := l1008_9) (zs := [l1010_7]) se30 k18a k18b r r r r r r <| asg r r r <| dn <| at_bn <| ?_
        replace hy := sj hy
        subst hy
        refine metI ((l1008_9 ++ [l1010_7]), _, _) r hc5 (.k r r (.k r r (.k r r (.k r r (.k r r .nil))))) (.k r r (.k r r .nil))
      ·rintro ⟨l1008_8, g1_5, g1008_5⟩ cl hy
       subst hk5
       change At _ cl (mk _ _) _
       refine reg1 3 r <| mv r r r <| bn r r r r r <| asg r r r <| dn <| againI (n4, (w64 (v9_9 + 1)), l1008_8, _, _) r hy (Nat.lt_succ_self _) (.k r r (.k r r (.k r r (.k r r (.k r r .nil))))) (.k r r (.k r r .nil))
     ·replace hy := ifF hy h6
      refine at_exit <| at_te <| at_te <| at_inBlock <| ?_
      replace hy := sj hy
      subst hy
      refine metI (l1008_9, _) r hc3 (.k r r .nil) (.k r r .nil)
    ·rintro ⟨l1008_10, g1008_3⟩ cl hy
     subst hk3
     change At _ cl (mk _ _) _
     refine reg 3 r <| mv r r r <| asg r r r <| asg r r r <| dn <| at_ret <| frzP (f := (SL 1 I)) (l := l1008_10) 4 1008 r r (pu_l 1 pu_I) <| ?_
     replace hy := sj hy
     subst hy
     exact outs (rs := [4, 5]) (res2 r) (by simp) (.inl r) (looks_of r) r (.cons ((pu_l 1 (pu_l 1 pu_I)) _) (.cons (pu_I _) (.nil)))
end Go.Ar
namespace Go.Ar
open Go.RowKit
def p_r17_Mark_L1 (K : Nat) (a1 : (List Bool)) : Nat → Int → (List Int) → Option (List Int)
 | 0, _, _ => none
 | n+1, v7_1, l2_1 => (bif (decide (v7_1 < (a1.length : Int))) then (ixP a1 v7_1 fun v3 => (bif v3 then (bdP l2_1.length v7_1 fun i4 => gtP l2_1 i4 fun v5 => p_r17_Mark_L1 K a1 n (w64 (v7_1 + 1)) (l2_1.set i4 1)) else p_r17_Mark_L1 K a1 n (w64 (v7_1 + 1)) l2_1)) else some l2_1)
def p_r17_Mark (K : Nat) (a0 : Tw) (a1 : (List Bool)) : Option ((List (List Int)) × Int) :=
 (mkP 8 (a1.length : Int) fun i1 => ((p_r17_Mark_L1 K a1 K 0 (List.replicate i1 (0 : Int)) : Option (List Int)).bind fun l2_2 => ((p_r16_Build K a0 l2_2).bind fun r6 => some (r6.1, r6.2))))
theorem w_r17_Mark {K : Nat} {a0 : Tw} {a1 : (List Bool)} {y : ((List (List Int)) × Int)} (hy : p_r17_Mark K a0 a1 = some y) : Does PP GV 27 [] [(TwA a0), ((SL 1 B) a1)] [] [] (.tup [((SL 1 (SL 1 I)) y.1), (I y.2)]) := by
 unfold p_r17_Mark at hy
 refine does_of at27 r (le_ok r) <| ?_
 rintro ⟨_, base, w0, F⟩ rfl
 refine reg 3 r <| bx 1 r r r r <| asg r r r <| asg r r r <| dn <| reg 4 r <| mv r r r <| lnf (f := B) slB66 r r r <| ?_
 obtain ⟨i1, qi1, bi1, hy⟩ := mkI hy
 refine mksP (f := I) 0 2 se29 qi1 bi1 r r r r r r <| asg r r r <| dn <| ?_
 obtain ⟨o1, hy, k1, hk1, hc1⟩ := bndK hy
 refine meetI (fun (p : (List Int) × Nat × Nat) => match p with | (l2_2, g1_1, g2_1) => mk [(2, .ptr 1 g1_1 0 0), (6, .own 2 g2_1 1 0 (l2_2).length false)] [(1, some (g1_1, .buf 3 [.agg [((SL 1 I) a0.tokens), ((SL 1 I) a0.heights), ((SL 1 (SL 1 I)) a0.next)]])), (2, some (g2_1, .buf 1 (l2_2.map I)))]) (fun p => match p with | (l2_2, g1_1, g2_1) => k1 l2_2 = some y) ?_ ?_
 ·skip
  refine reg 1 r <| asg r r r <| dn <| at_block <| wk (T' := [(1, ((SL 1 B) a1)), (2, .ptr 1 _ 0 0), (6, .own 2 _ 1 0 ((List.replicate i1 (0 : Int))).length false), (7, (I 0))]) (H' := [(1, some (_, .buf 3 [.agg [((SL 1 I) a0.tokens), ((SL 1 I) a0.heights), ((SL 1 (SL 1 I)) a0.next)]])), (2, some (_, .buf 1 ((List.replicate i1 (0 : Int)).map I)))]) (.k r r (.k r r (.k r r (.k r r .nil)))) (.k r r (.k r r .nil)) <| loopI (fun (p : Nat × Int × (List Int) × Nat × Nat) => match p with | (n2, v7_1, l2_1, g1_2, g2_2) => mk [(1, ((SL 1 B) a1)), (2, .ptr 1 g1_2 0 0), (6, .own 2 g2_2 1 0 (l2_1).length false), (7, (I v7_1))] [(1, some (g1_2, .buf 3 [.agg [((SL 1 I) a0.tokens), ((SL 1 I) a0.heights), ((SL 1 (SL 1 I)) a0.next)]])), (2, some (g2_2, .buf 1 (l2_1.map I)))]) (fun p => match p with | (n2, v7_1, l2_1, g1_2, g2_2) => p_r17_Mark_L1 K a1 n2 v7_1 l2_1 = some o1) (fun p => p.1) ?_ (K, 0, (List.replicate i1 (0 : Int)), _, _) hy _
  rintro ⟨n2, v7_1, l2_1, g1_2, g2_2⟩ cl hy
  cases n2 with | zero => cases hy | succ n2 => ?_
  change At _ cl (mk _ _) _
  replace hy : p_r17_Mark_L1 K a1 (n2+1) v7_1 l2_1 = some o1 := hy
  rw [p_r17_Mark_L1] at hy
  refine at_seq <| reg 4 r <| mv r r r <| mv r r r <| lnf (f := B) slB66 r r r <| bn r r r r r <| dn <| cd r (fun h3 => ?_) (fun h3 => ?_)
  ·replace hy := ifT hy h3
   refine at_skip <| at_seq <| at_block <| reg 4 r <| mv r r r <| mv r r r <| ?_
   obtain ⟨i2, v3, qi2, xv3, hy⟩ := ixI hy
   refine fixP (f := B) sl66 qi2 xv3 r r r r <| fld tk4 r r r r <| dn <| cd r (fun h4 => ?_) (fun h4 => ?_)
   ·replace hy := ifT hy h4
    refine reg1 4 r <| mv r r r <| mv r r r <| ?_
    obtain ⟨i4, qi4, bi4, hy⟩ := bdI hy
    obtain ⟨v5, xv5, hy⟩ := gtI hy
    refine ixP' sl29 qi4 bi4 r r r r <| stP (f := I) (1) tk3 xv5 r r r r r r <| dn <| at_bn <| reg1 3 r <| mv r r r <| bn r r r r r <| asg r r r <| dn <| againI (n2, (w64 (v7_1 + 1)), (l2_1.set i4 1), _, _) r hy (Nat.lt_succ_self _) (.k r r (.k r r (.k r (by simp) (.k r r .nil)))) (.k r r (.k r r .nil))
   ·replace hy := ifF hy h4
    refine at_skip <| at_bn <| reg1 3 r <| mv r r r <| bn r r r r r <| asg r r r <| dn <| againI (n2, (w64 (v7_1 + 1)), l2_1, _, _) r hy (Nat.lt_succ_self _) (.k r r (.k r r (.k r r (.k r r .nil)))) (.k r r (.k r r .nil))
  ·replace hy := ifF hy h3
   refine at_exit <| at_te <| at_te <| at_inBlock <| ?_
   replace hy := sj hy
   subst hy
   refine metI (l2_1, _, _) r hc1 (.k r r (.k r r .nil)) (.k r r (.k r r .nil))
 ·rintro ⟨l2_2, g1_1, g2_1⟩ cl hy
  subst hk1
  change At _ cl (mk _ _) _
  refine frzP (f := I) (l := l2_2) 6 2 r r pu_I <| reg 7 r <| ldw tk32 r r r r r r <| mv r r r <| ?_
  obtain ⟨r6, qr6, hy⟩ := bndI hy
  refine clp (w_r16_Build qr6) ca52 r r (.cons (pu_Tw _) (.cons ((pu_l 1 pu_I) _) (.nil))) (.tup (.cons ((pu_l 1 (pu_l 1 pu_I)) _) (.cons (pu_I _) (.nil)))) r <| ext r r r r <| ext r r r r <| asg r r r <| asg r r r <| dn <| at_ret <| ?_
  replace hy := sj hy
  subst hy
  exact outs (rs := [4, 5]) (res2 r) (by simp) (.inl r) (looks_of r) r (.cons ((pu_l 1 (pu_l 1 pu_I)) _) (.cons (pu_I _) (.nil)))
def p_r13_From (K : Nat) (a0 : (List Int)) (a1 : Int) : Option ((List Int) × Bool) :=
 ((p_r13_Place K a0 a1).bind fun r1 => ((p_r13_Right K a0).bind fun r2 => (bif (!r2) then some ([], false) else (bif (decide (r1 < 0)) then some ([], false) else (slP a0 r1 a0.length fun v5 => (apP 8 ([] : List Int).length v5.length ((slP a0 0 r1 fun v9 => (apP 8 (([] : List Int) ++ v5).length v9.length (some (((([] : List Int) ++ v5) ++ v9), true)))))))))))
theorem w_r13_From {K : Nat} {a0 : (List Int)} {a1 : Int} {y : ((List Int) × Bool)} (hy : p_r13_From K a0 a1 = some y) : Does PP GV 124 [] [((SL 1 I) a0), (I a1)] [] [] (.tup [((SL 1 I) y.1), (B y.2)]) := by
 unfold p_r13_From at hy
 refine does_of at124 r (le_ok r) <| ?_
 rintro ⟨_, base, w0, F⟩ rfl
 refine reg 2 r <| asg r r r <| asg r r r <| dn <| reg 4 r <| mv r r r <| mv r r r <| ?_
 obtain ⟨r1, qr1, hy⟩ := bndI hy
 refine clp (w_r13_Place qr1) ca79 r r (.cons ((pu_l 1 pu_I) _) (.cons (pu_I _) (.nil))) (.one (pu_I _)) r <| asg r r r <| dn <| at_seq <| reg 7 r <| mv r r r <| ?_
 obtain ⟨r2, qr2, hy⟩ := bndI hy
 refine clp (w_r13_Right qr2) ca48 r r (.cons ((pu_l 1 pu_I) _) (.nil)) (.one (pu_B _)) r <| nt r r r <| mv r r r <| cas 13 r (fun h1 => ?_) (fun h1 => ?_)
 ·replace hy := ifT hy h1
  refine sk r r <| sk r r <| pkt r r r r r <| dn <| cdt r <| reg 2 r <| asg r r r <| asg r r r <| dn <| at_ret <| atnilP (I) 4 1 r <| ?_
  replace hy := sj hy
  subst hy
  exact outs (rs := [4, 5]) (res2 r) (by simp) (.inl r) (looks_of r) r (.cons ((pu_l 1 pu_I) _) (.cons (pu_B _) (.nil)))
 ·replace hy := ifF hy h1
  refine mv r r r <| bn r r r r r <| pkf r r r r r <| dn <| cd r (fun h2 => ?_) (fun h2 => ?_)
  ·replace hy := ifT hy h2
   refine reg 2 r <| asg r r r <| asg r r r <| dn <| at_ret <| atnilP (I) 4 1 r <| ?_
   replace hy := sj hy
   subst hy
   exact outs (rs := [4, 5]) (res2 r) (by simp) (.inl r) (looks_of r) r (.cons ((pu_l 1 pu_I) _) (.cons (pu_B _) (.nil)))
  ·replace hy := ifF hy h2
   refine at_skip <| regd mixed 11 r <| bldsP I ([] : List Int) 1 se29 r r r r r r r <| mv r r r <| mv r r r <| ?_
   obtain ⟨i3, i4, qi3, qi4, bi3, ci3, hy⟩ := slI hy
   refine fsllP (f := I) sl29 qi3 qi4 bi3 r r r r <| ?_
   generalize ((List.take i4 a0).drop i3) = v5 at hy ⊢
   obtain ⟨k6a, k6b, hy⟩ := apI hy
   refine aplP (f := I) (l := ([] : List Int)) (zs := v5) se29 k6a k6b r r r r r <| mv r r r <| mv r r r <| ?_
   obtain ⟨i7, i8, qi7, qi8, bi7, ci7, hy⟩ := slI hy
   refine fslhP (f := I) sl29 qi7 qi8 ci7 r r r r <| ?_
   generalize ((List.take i8 a0).drop i7) = v9 at hy ⊢
   obtain ⟨k10a, k10b, hy⟩ := apI hy
   refine aplP (f := I) (l := (([] : List Int) ++ v5)) (zs := v9) se29 k10a k10b r r r r r <| asg r r r <| asg r r r <| dn ⟨by kernel_rfl, ?_⟩
   refine at_ret <| frzP (f := I) (l := ((([] : List Int) ++ v5) ++ v9)) 4 1 r r pu_I <| ?_
   replace hy := sj hy
   subst hy
   exact outs (rs := [4, 5]) (res2 r) (by simp) (.inl r) (looks_of r) r (.cons ((pu_l 1 pu_I) _) (.cons (pu_B _) (.nil)))
def p_r13_Plain_L1 (K : Nat) (a0 : (List Int)) : Nat → Int → Int → Option Int
 | 0, _, _ => none
 | n+1, v3_1, v4_1 => (bif (decide (v4_1 < (a0.length : Int))) then (ixP a0 v4_1 fun v5 => p_r13_Plain_L1 K a0 n (if v5 < v3_1 then v5 else v3_1) (w64 (v4_1 + 1))) else some v3_1)
def p_r13_Plain (K : Nat) (a0 : (List Int)) : Option (List Int) :=
 ((p_r13_Right K a0).bind fun r1 => (bif (!r1) then some [] else (bif ((a0.length : Int) == 0) then some [] else (ixP a0 0 fun v3 => ((p_r13_Plain_L1 K a0 K v3 0 : Option Int).bind fun v3_2 => ((p_r13_From K a0 v3_2).bind fun r6 => some r6.1))))))
theorem w_r13_Plain {K : Nat} {a0 : (List Int)} {y : (List Int)} (hy : p_r13_Plain K a0 = some y) : Does PP GV 101 [] [((SL 1 I) a0)] [] [] ((SL 1 I) y) := by
 unfold p_r13_Plain at hy
 refine does_of at101 r (le_ok r) <| ?_
 rintro ⟨_, base, w0, F⟩ rfl
 refine reg 1 r <| asg r r r <| dn <| at_seq <| reg 8 r <| mv r r r <| ?_
 obtain ⟨r1, qr1, hy⟩ := bndI hy
 refine clp (w_r13_Right qr1) ca48 r r (.cons ((pu_l 1 pu_I) _) (.nil)) (.one (pu_B _)) r <| nt r r r <| mv r r r <| cas 10 r (fun h1 => ?_) (fun h1 => ?_)
 ·replace hy := ifT hy h1
  refine sk r r <| sk r r <| sk r r <| pkt r r r r r <| dn <| cdt r <| reg 1 r <| asg r r r <| dn <| at_ret <| atnilP (I) 2 1 r <| ?_
  replace hy := sj hy
  subst hy
  exact out1 r (.inl r) (look_of r) r ((pu_l 1 pu_I) _)
 ·replace hy := ifF hy h1
  refine mv r r r <| lnf (f := I) slB29 r r r <| bn r r r r r <| pkf r r r r r <| dn <| cd r (fun h2 => ?_) (fun h2 => ?_)
  ·replace hy := ifT hy h2
   refine reg 1 r <| asg r r r <| dn <| at_ret <| atnilP (I) 2 1 r <| ?_
   replace hy := sj hy
   subst hy
   exact out1 r (.inl r) (look_of r) r ((pu_l 1 pu_I) _)
  ·replace hy := ifF hy h2
   refine at_skip <| reg 4 r <| mv r r r <| ?_
   obtain ⟨i2, v3, qi2, xv3, hy⟩ := ixI hy
   refine fixP (f := I) sl29 qi2 xv3 r r r r <| fld tk3 r r r r <| asg r r r <| dn <| ?_
   obtain ⟨o1, hy, k1, hk1, hc1⟩ := bndK hy
   refine meetI (fun (p : Int) => match p with | v3_2 => mk [(0, ((SL 1 I) a0)), (3, (I v3_2))] []) (fun p => match p with | v3_2 => k1 v3_2 = some y) ?_ ?_
   ·skip
    refine reg 1 r <| asg r r r <| dn <| at_block <| wk (T' := [(0, ((SL 1 I) a0)), (3, (I v3)), (4, (I 0))]) (H' := []) (.k r r (.k r r (.k r r .nil))) .nil <| loopI (fun (p : Nat × Int × Int) => match p with | (n2, v3_1, v4_1) => mk [(0, ((SL 1 I) a0)), (3, (I v3_1)), (4, (I v4_1))] []) (fun p => match p with | (n2, v3_1, v4_1) => p_r13_Plain_L1 K a0 n2 v3_1 v4_1 = some o1) (fun p => p.1) ?_ (K, v3, 0) hy _
    rintro ⟨n2, v3_1, v4_1⟩ cl hy
    cases n2 with | zero => cases hy | succ n2 => ?_
    change At _ cl (mk _ _) _
    replace hy : p_r13_Plain_L1 K a0 (n2+1) v3_1 v4_1 = some o1 := hy
    rw [p_r13_Plain_L1] at hy
    refine at_seq <| reg 4 r <| mv r r r <| mv r r r <| lnf (f := I) slB29 r r r <| bn r r r r r <| dn <| cd r (fun h5 => ?_) (fun h5 => ?_)
    ·replace hy := ifT hy h5
     refine at_skip <| at_seq <| at_block <| reg1 7 r <| mv r r r <| mv r r r <| mv r r r <| ?_
     obtain ⟨i4, v5, qi4, xv5, hy⟩ := ixI hy
     refine fixP (f := I) sl29 qi4 xv5 r r r r <| fld tk3 r r r r <| rg_min (gd_of r) (ev_of r) (ev_of r) (lt_ok r) <| asg r r r <| dn <| at_bn <| reg1 3 r <| mv r r r <| bn r r r r r <| asg r r r <| dn <| againI (n2, (if v5 < v3_1 then v5 else v3_1), (w64 (v4_1 + 1))) r hy (Nat.lt_succ_self _) (.k r r (.k r r (.k r r .nil))) .nil
    ·replace hy := ifF hy h5
     refine at_exit <| at_te <| at_te <| at_inBlock <| ?_
     replace hy := sj hy
     subst hy
     refine metI v3_1 r hc1 (.k r r (.k r r .nil)) .nil
   ·rintro v3_2 cl hy
    subst hk1
    change At _ cl (mk _ _) _
    refine reg 8 r <| mv r r r <| mv r r r <| ?_
    obtain ⟨r6, qr6, hy⟩ := bndI hy
    refine clp (w_r13_From qr6) ca124 r r (.cons ((pu_l 1 pu_I) _) (.cons (pu_I _) (.nil))) (.tup (.cons ((pu_l 1 pu_I) _) (.cons (pu_B _) (.nil)))) r <| mv r r r <| ext r r r r <| ext r r r r <| asg r r r <| asg r r r <| dn <| reg 2 r <| mv r r r <| asg r r r <| dn <| at_ret <| ?_
    replace hy := sj hy
    subst hy
    exact out1 r (.inl r) (look_of r) r ((pu_l 1 pu_I) _)
def p_r18_tree_L3 (K : Nat) (v1_4 : (List Int)) (v6_4 : Int) : Nat → Int → (List Int) → Option (List Int)
 | 0, _, _ => none
 | n+1, v15_5, l1014_5 => (bif (decide (v15_5 < (v1_4.length : Int))) then (nzP (v1_4.length : Int) ((ixP v1_4 (Int.tmod (w64 (v6_4 + v15_5)) (v1_4.length : Int)) fun v18 => (apP 8 l1014_5.length [v18].length (p_r18_tree_L3 K v1_4 v6_4 n (w64 (v15_5 + 1)) (l1014_5 ++ [v18])))))) else some l1014_5)
def p_r18_tree_L2 (K : Nat) (a0 : Int) : Nat → (List Int) → Bool → Int → Option ((List Int) × Bool)
 | 0, _, _, _ => none
 | n+1, v1_4, v5_4, v6_4 => (bif (decide (v6_4 < (v1_4.length : Int))) then (bif (!v5_4) then (((ixP v1_4 v6_4 fun v3 => (nzP (v1_4.length : Int) ((ixP v1_4 (Int.tmod (w64 (v6_4 + 1)) (v1_4.length : Int)) fun v6 => (nzP (v1_4.length : Int) ((ixP v1_4 (Int.tmod (w64 (v6_4 + 2)) (v1_4.length : Int)) fun v9 => ((p_r18_Token K a0 v3).bind fun r10 => (bif (decide ((v1_4.length : Int) ≥ 4)) then (bif r10.2.2.2 then (bif r10.2.2.1 then (bif (v6 == r10.2.1) then ((p_r18_Arc K a0 r10.2.1 r10.1).bind fun r11 => (bif (v9 == r11) then (nzP (v1_4.length : Int) ((ixP v1_4 (Int.tmod (w64 ((w64 (v6_4 + (v1_4.length : Int))) - 1)) (v1_4.length : Int)) fun v14 => ((p_r18_stands K a0 v14 r10.1).bind fun r15 => (bif r15 then ((p_r18_tree_L3 K v1_4 v6_4 K 3 [] : Option (List Int)).bind fun l1014_6 => some (l1014_6, true)) else some (v1_4, v5_4)))))) else some (v1_4, v5_4))) else some (v1_4, v5_4)) else some (v1_4, v5_4)) else some (v1_4, v5_4)) else some (v1_4, v5_4)))))))))) : Option ((List Int) × Bool)).bind fun (v1_7, v5_7) => p_r18_tree_L2 K a0 n v1_7 v5_7 (w64 (v6_4 + 1))) else some (v1_4, v5_4)) else some (v1_4, v5_4))
def p_r18_tree_L1 (K : Nat) (a0 : Int) : Nat → (List Int) → Option (Sum (List Int) Bool)
 | 0, _ => none
 | n+1, v1_10 => (bif (decide ((v1_10.length : Int) > 1)) then ((((p_r18_tree_L2 K a0 K v1_10 false 0 : Option ((List Int) × Bool)).bind fun (v1_8, v5_8) => (bif (!v5_8) then some (.inr (.inr false)) else some (.inl v1_8))) : Option (Sum (List Int) (Sum (List Int) Bool))).bind fun | .inl v1_9 => p_r18_tree_L1 K a0 n v1_9 | .inr r => some r) else some (.inl v1_10))
def p_r18_tree (K : Nat) (a0 : Int) (a1 : (List Int)) : Option Bool :=
 (apP 8 ([] : List Int).length a1.length (((p_r18_tree_L1 K a0 K (([] : List Int) ++ a1) : Option (Sum (List Int) Bool)).bind fun | .inl v1_11 => (bif ((v1_11.length : Int) == 1) then (ixP v1_11 0 fun v21 => ((p_r18_in K a0 v21).bind fun r22 => some r22)) else some false) | .inr r => some r)))
theorem w_r18_tree {K : Nat} {a0 : Int} {a1 : (List Int)} {y : Bool} (hy : p_r18_tree K a0 a1 = some y) : Does PP GV 100 [] [(I a0), ((SL 1 I) a1)] [] [] (B y) := by
 unfold p_r18_tree at hy
 refine does_of at100 r (le_ok r) <| ?_
 rintro ⟨_, base, w0, F⟩ rfl
 refine reg 1 r <| asg r r r <| dn <| reg 4 r <| bldsP I ([] : List Int) 1 se29 r r r r r r r <| mv r r r <| ?_
 obtain ⟨k1a, k1b, hy⟩ := apI hy
 refine aplP (f := I) (l := ([] : List Int)) (zs := a1) se29 k1a k1b r r r r r <| asg r r r <| dn <| ?_
 obtain ⟨o1, hy, k1, hk1, hc1⟩ := bndK hy
 refine meetI (fun (p : (List Int)) => match p with | v1_11 => mk [(0, (I a0)), (1, ((SL 1 I) v1_11))] []) (fun p => match p with | v1_11 => k1 (.inl v1_11) = some y) ?_ ?_
 ·skip
  refine at_block <| frzP (f := I) (l := (([] : List Int) ++ a1)) 1 1 r r pu_I <| wk (T' := [(0, (I a0)), (1, ((SL 1 I) (([] : List Int) ++ a1)))]) (H' := []) (.k r r (.k r r .nil)) .nil <| loopI (fun (p : Nat × (List Int)) => match p with | (n2, v1_10) => mk [(0, (I a0)), (1, ((SL 1 I) v1_10))] []) (fun p => match p with | (n2, v1_10) => p_r18_tree_L1 K a0 n2 v1_10 = some o1) (fun p => p.1) ?_ (K, (([] : List Int) ++ a1)) hy _
  rintro ⟨n2, v1_10⟩ cl hy
  cases n2 with | zero => cases hy | succ n2 => ?_
  change At _ cl (mk _ _) _
  replace hy : p_r18_tree_L1 K a0 (n2+1) v1_10 = some o1 := hy
  rw [p_r18_tree_L1] at hy
  refine at_seq <| reg 3 r <| mv r r r <| lnf (f := I) slB29 r r r <| bn r r r r r <| dn <| cd r (fun h3 => ?_) (fun h3 => ?_)
  ·replace hy := ifT hy h3
   refine at_skip <| ?_
   obtain ⟨o3, hy, k3, hk3, hc3⟩ := bndK hy
   refine meetT (fun (p : (List Int)) => match p with | v1_9 => mk [(0, (I a0)), (1, ((SL 1 I) v1_9))] []) (fun p => match p with | v1_9 => k3 (.inl v1_9) = some o1) ?_ ?_
   ·skip
    refine at_block <| reg 1 r <| asg r r r <| dn <| ?_
    obtain ⟨o4, hy, k4, hk4, hc4⟩ := bndK hy
    refine meetI (fun (p : (List Int) × Bool) => match p with | (v1_8, v5_8) => mk [(0, (I a0)), (1, ((SL 1 I) v1_8)), (5, (B v5_8))] []) (fun p => match p with | (v1_8, v5_8) => k4 (v1_8, v5_8) = some o3) ?_ ?_
    ·skip
     refine reg 1 r <| asg r r r <| dn <| at_block <| wk (T' := [(0, (I a0)), (1, ((SL 1 I) v1_10)), (5, (B false)), (6, (I 0))]) (H' := []) (.k r r (.k r r (.k r r (.k r r .nil)))) .nil <| loopI (fun (p : Nat × (List Int) × Bool × Int) => match p with | (n5, v1_4, v5_4, v6_4) => mk [(0, (I a0)), (1, ((SL 1 I) v1_4)), (5, (B v5_4)), (6, (I v6_4))] []) (fun p => match p with | (n5, v1_4, v5_4, v6_4) => p_r18_tree_L2 K a0 n5 v1_4 v5_4 v6_4 = some o4) (fun p => p.1) ?_ (K, v1_10, false, 0) hy _
     rintro ⟨n5, v1_4, v5_4, v6_4⟩ cl hy
     cases n5 with | zero => cases hy | succ n5 => ?_
     change At _ cl (mk _ _) _
     replace hy : p_r18_tree_L2 K a0 (n5+1) v1_4 v5_4 v6_4 = some o4 := hy
     rw [p_r18_tree_L2] at hy
     refine at_seq <| reg 8 r <| mv r r r <| mv r r r <| lnf (f := I) slB29 r r r <| bn r r r r r <| mv r r r <| cas 26 r (fun h7 => ?_) (fun h7 => ?_)
     ·replace hy := ifT hy h7
      refine mv r r r <| nt r r r <| pkt r r r r r <| dn <| cd r (fun h8 => ?_) (fun h8 => ?_)
      ·replace hy := ifT hy h8
       refine at_skip <| ?_
       obtain ⟨o6, hy, k6, hk6, hc6⟩ := bndK hy
       refine meetI (fun (p : (List Int) × Bool) => match p with | (v1_7, v5_7) => mk [(0, (I a0)), (1, ((SL 1 I) v1_7)), (5, (B v5_7)), (6, (I v6_4))] []) (fun p => match p with | (v1_7, v5_7) => k6 (v1_7, v5_7) = some o4) ?_ ?_
       ·skip
        refine at_block <| regd mixed 23 r <| mv r r r <| mv r r r <| ?_
        obtain ⟨i2, v3, qi2, xv3, hy⟩ := ixI hy
        refine fixP (f := I) sl29 qi2 xv3 r r r r <| fld tk3 r r r r <| mv r r r <| mv r r r <| bn r r r r r <| mv r r r <| lnf (f := I) slB29 r r r <| ?_
        obtain ⟨k4, hy⟩ := nzI hy
        refine rm r r r r k4 <| ?_
        obtain ⟨i5, v6, qi5, xv6, hy⟩ := ixI hy
        refine fixP (f := I) sl29 qi5 xv6 r r r r <| fld tk3 r r r r <| mv r r r <| mv r r r <| bn r r r r r <| mv r r r <| lnf (f := I) slB29 r r r <| ?_
        obtain ⟨k7, hy⟩ := nzI hy
        refine rm r r r r k7 <| ?_
        obtain ⟨i8, v9, qi8, xv9, hy⟩ := ixI hy
        refine fixP (f := I) sl29 qi8 xv9 r r r r <| fld tk3 r r r r <| asg r r r <| asg r r r <| asg r r r <| dn ⟨by kernel_rfl, ?_⟩
        refine reg 12 r <| mv r r r <| mv r r r <| ?_
        obtain ⟨r10, qr10, hy⟩ := bndI hy
        refine clp (w_r18_Token qr10) ca121 r r (.cons (pu_I _) (.cons (pu_I _) (.nil))) (.tup (.cons (pu_I _) (.cons (pu_I _) (.cons (pu_B _) (.cons (pu_B _) (.nil)))))) r <| mv r r r <| ext r r r r <| ext r r r r <| ext r r r r <| ext r r r r <| asg r r r <| asg r r r <| asg r r r <| asg r r r <| dn <| reg 38 r <| mv r r r <| lnf (f := I) slB29 r r r <| bn r r r r r <| mv r r r <| cas 63 r (fun h10 => ?_) (fun h10 => ?_)
        ·replace hy := ifT hy h10
         refine mv r r r <| pkt r r r r r <| mv r r r <| cas 66 r (fun h11 => ?_) (fun h11 => ?_)
         ·replace hy := ifT hy h11
          refine mv r r r <| pkt r r r r r <| mv r r r <| cas 69 r (fun h12 => ?_) (fun h12 => ?_)
          ·replace hy := ifT hy h12
           refine mv r r r <| mv r r r <| bn r r r r r <| pkt r r r r r <| mv r r r <| cas 74 r (fun h13 => ?_) (fun h13 => ?_)
           ·replace hy := ifT hy h13
            refine mv r r r <| mv r r r <| mv r r r <| mv r r r <| ?_
            obtain ⟨r11, qr11, hy⟩ := bndI hy
            refine clp (w_r18_Arc qr11) ca122 r r (.cons (pu_I _) (.cons (pu_I _) (.cons (pu_I _) (.nil)))) (.one (pu_I _)) r <| bn r r r r r <| pkt r r r r r <| mv r r r <| cas 82 r (fun h14 => ?_) (fun h14 => ?_)
            ·replace hy := ifT hy h14
             refine mv r r r <| mv r r r <| mv r r r <| mv r r r <| lnf (f := I) slB29 r r r <| bn r r r r r <| bn r r r r r <| mv r r r <| lnf (f := I) slB29 r r r <| ?_
             obtain ⟨k12, hy⟩ := nzI hy
             refine rm r r r r k12 <| ?_
             obtain ⟨i13, v14, qi13, xv14, hy⟩ := ixI hy
             refine fixP (f := I) sl29 qi13 xv14 r r r r <| fld tk3 r r r r <| mv r r r <| ?_
             obtain ⟨r15, qr15, hy⟩ := bndI hy
             refine clp (w_r18_stands qr15) ca123 r r (.cons (pu_I _) (.cons (pu_I _) (.cons (pu_I _) (.nil)))) (.one (pu_B _)) r <| pkt r r r r r <| dn <| cd r (fun h15 => ?_) (fun h15 => ?_)
             ·replace hy := ifT hy h15
              refine reg 1 r <| asg r r r <| dn <| ?_
              obtain ⟨o7, hy, k7, hk7, hc7⟩ := bndK hy
              refine meetI (fun (p : (List Int) × Nat) => match p with | (l1014_6, g1014_7) => mk [(0, (I a0)), (6, (I v6_4)), (14, .own 1014 g1014_7 1 0 (l1014_6).length false)] [(1014, some (g1014_7, .buf 1 (l1014_6.map I)))]) (fun p => match p with | (l1014_6, g1014_7) => k7 l1014_6 = some o6) ?_ ?_
              ·skip
               refine reg 1 r <| asg r r r <| dn <| at_block <| niloP (I) 14 1014 1 r <| wk (T' := [(0, (I a0)), (1, ((SL 1 I) v1_4)), (6, (I v6_4)), (14, .own 1014 _ 1 0 ([]).length false), (15, (I 3))]) (H' := [(1014, some (_, .buf 1 ([].map I)))]) (.k r r (.k r r (.k r r (.k r r (.k r r .nil))))) (.k r r .nil) <| loopI (fun (p : Nat × Int × (List Int) × Nat) => match p with | (n8, v15_5, l1014_5, g1014_8) => mk [(0, (I a0)), (1, ((SL 1 I) v1_4)), (6, (I v6_4)), (14, .own 1014 g1014_8 1 0 (l1014_5).length false), (15, (I v15_5))] [(1014, some (g1014_8, .buf 1 (l1014_5.map I)))]) (fun p => match p with | (n8, v15_5, l1014_5, g1014_8) => p_r18_tree_L3 K v1_4 v6_4 n8 v15_5 l1014_5 = some o7) (fun p => p.1) ?_ (K, 3, [], _) hy _
               rintro ⟨n8, v15_5, l1014_5, g1014_8⟩ cl hy
               cases n8 with | zero => cases hy | succ n8 => ?_
               change At _ cl (mk _ _) _
               replace hy : p_r18_tree_L3 K v1_4 v6_4 (n8+1) v15_5 l1014_5 = some o7 := hy
               rw [p_r18_tree_L3] at hy
               refine at_seq <| reg 4 r <| mv r r r <| mv r r r <| lnf (f := I) slB29 r r r <| bn r r r r r <| dn <| cd r (fun h18 => ?_) (fun h18 => ?_)
               ·replace hy := ifT hy h18
                refine at_skip <| at_seq <| at_block <| reg1 13 r <| mv r r r <| mv r r r <| mv r r r <| mv r r r <| bn r r r r r <| mv r r r <| lnf (f := I) slB29 r r r <| ?_
                obtain ⟨k16, hy⟩ := nzI hy
                refine rm r r r r k16 <| ?_
                obtain ⟨i17, v18, qi17, xv18, hy⟩ := ixI hy
                refine fixP (f := I) sl29 qi17 xv18 r r r r <| fld tk3 r r r r <| bldsP I ([v18] : List Int) 2 se29 r r r r r r r <| ?_
                obtain ⟨k19a, k19b, hy⟩ := apI hy
                refine apoP (f := I) (l := l1014_5) (zs := [v18]) se29 k19a k19b r r r r r r <| asg r r r <| dn <| at_bn <| reg1 3 r <| mv r r r <| bn r r r r r <| asg r r r <| dn <| againI (n8, (w64 (v15_5 + 1)), (l1014_5 ++ [v18]), _) r hy (Nat.lt_succ_self _) (.k r r (.k r r (.k r r (.k r r (.k r r .nil))))) (.k r r .nil)
               ·replace hy := ifF hy h18
                refine at_exit <| at_te <| at_te <| at_inBlock <| ?_
                replace hy := sj hy
                subst hy
                refine metI (l1014_5, _) r hc7 (.k r r (.k r r (.k r r .nil))) (.k r r .nil)
              ·rintro ⟨l1014_6, g1014_7⟩ cl hy
               subst hk7
               change At _ cl (mk _ _) _
               refine reg1 3 r <| mv r r r <| asg r r r <| asg r r r <| dn <| at_bn <| frzP (f := I) (l := l1014_6) 1 1014 r r pu_I <| ?_
               replace hy := sj hy
               subst hy
               refine metI (l1014_6, true) r hc6 (.k r r (.k r r (.k r r (.k r r .nil)))) .nil
             ·replace hy := ifF hy h15
              refine at_skip <| at_bn <| ?_
              replace hy := sj hy
              subst hy
              refine metI (v1_4, v5_4) r hc6 (.k r r (.k r r (.k r r (.k r r .nil)))) .nil
            ·replace hy := ifF hy h14
             refine sk r r <| sk r r <| sk r r <| sk r r <| sk r r <| sk r r <| sk r r <| sk r r <| sk r r <| sk r r <| sk r r <| sk r r <| sk r r <| sk r r <| pkf r r r r r <| dn <| cdf r <| at_skip <| at_bn <| ?_
             replace hy := sj hy
             subst hy
             refine metI (v1_4, v5_4) r hc6 (.k r r (.k r r (.k r r (.k r r .nil)))) .nil
           ·replace hy := ifF hy h13
            refine sk r r <| sk r r <| sk r r <| sk r r <| sk r r <| sk r r <| pkf r r r r r <| mv r r r <| sk r r <| sk r r <| sk r r <| sk r r <| sk r r <| sk r r <| sk r r <| sk r r <| sk r r <| sk r r <| sk r r <| sk r r <| sk r r <| sk r r <| pkf r r r r r <| dn <| cdf r <| at_skip <| at_bn <| ?_
            replace hy := sj hy
            subst hy
            refine metI (v1_4, v5_4) r hc6 (.k r r (.k r r (.k r r (.k r r .nil)))) .nil
          ·replace hy := ifF hy h12
           refine sk r r <| sk r r <| sk r r <| pkf r r r r r <| mv r r r <| sk r r <| sk r r <| sk r r <| sk r r <| sk r r <| sk r r <| pkf r r r r r <| mv r r r <| sk r r <| sk r r <| sk r r <| sk r r <| sk r r <| sk r r <| sk r r <| sk r r <| sk r r <| sk r r <| sk r r <| sk r r <| sk r r <| sk r r <| pkf r r r r r <| dn <| cdf r <| at_skip <| at_bn <| ?_
           replace hy := sj hy
           subst hy
           refine metI (v1_4, v5_4) r hc6 (.k r r (.k r r (.k r r (.k r r .nil)))) .nil
         ·replace hy := ifF hy h11
          refine sk r r <| pkf r r r r r <| mv r r r <| sk r r <| sk r r <| sk r r <| pkf r r r r r <| mv r r r <| sk r r <| sk r r <| sk r r <| sk r r <| sk r r <| sk r r <| pkf r r r r r <| mv r r r <| sk r r <| sk r r <| sk r r <| sk r r <| sk r r <| sk r r <| sk r r <| sk r r <| sk r r <| sk r r <| sk r r <| sk r r <| sk r r <| sk r r <| pkf r r r r r <| dn <| cdf r <| at_skip <| at_bn <| ?_
          replace hy := sj hy
          subst hy
          refine metI (v1_4, v5_4) r hc6 (.k r r (.k r r (.k r r (.k r r .nil)))) .nil
        ·replace hy := ifF hy h10
         refine sk r r <| pkf r r r r r <| mv r r r <| sk r r <| pkf r r r r r <| mv r r r <| sk r r <| sk r r <| sk r r <| pkf r r r r r <| mv r r r <| sk r r <| sk r r <| sk r r <| sk r r <| sk r r <| sk r r <| pkf r r r r r <| mv r r r <| sk r r <| sk r r <| sk r r <| sk r r <| sk r r <| sk r r <| sk r r <| sk r r <| sk r r <| sk r r <| sk r r <| sk r r <| sk r r <| sk r r <| pkf r r r r r <| dn <| cdf r <| at_skip <| at_bn <| ?_
         replace hy := sj hy
         subst hy
         refine metI (v1_4, v5_4) r hc6 (.k r r (.k r r (.k r r (.k r r .nil)))) .nil
       ·rintro ⟨v1_7, v5_7⟩ cl hy
        subst hk6
        change At _ cl (mk _ _) _
        refine reg1 3 r <| mv r r r <| bn r r r r r <| asg r r r <| dn <| againI (n5, v1_7, v5_7, (w64 (v6_4 + 1))) r hy (Nat.lt_succ_self _) (.k r r (.k r r (.k r r (.k r r .nil)))) .nil
      ·replace hy := ifF hy h8
       refine at_exit <| at_te <| at_te <| at_inBlock <| ?_
       replace hy := sj hy
       subst hy
       refine metI (v1_4, v5_4) r hc4 (.k r r (.k r r (.k r r .nil))) .nil
     ·replace hy := ifF hy h7
      refine sk r r <| sk r r <| pkf r r r r r <| dn <| cdf r <| at_exit <| at_te <| at_te <| at_inBlock <| ?_
      replace hy := sj hy
      subst hy
      refine metI (v1_4, v5_4) r hc4 (.k r r (.k r r (.k r r .nil))) .nil
    ·rintro ⟨v1_8, v5_8⟩ cl hy
     subst hk4
     change At _ cl (mk _ _) _
     refine reg 2 r <| mv r r r <| nt r r r <| dn <| cd r (fun h6 => ?_) (fun h6 => ?_)
     ·replace hy := ifT hy h6
      refine reg 1 r <| asg r r r <| dn <| at_ret <| ?_
      replace hy := sj hy
      subst hy
      subst hk3
      replace hc3 := Option.some.inj hc3
      subst hc3
      subst hk1
      replace hc1 := Option.some.inj hc1
      subst hc1
      exact out1 r (.inl r) (look_of r) r (pu_B _)
     ·replace hy := ifF hy h6
      refine at_skip <| at_bn <| ?_
      replace hy := sj hy
      subst hy
      refine metI v1_8 r hc3 (.k r r (.k r r .nil)) .nil
   ·rintro v1_9 cl hy
    subst hk3
    change At _ cl (mk _ _) _
    refine againI (n2, v1_9) r hy (Nat.lt_succ_self _) (.k r r (.k r r .nil)) .nil
  ·replace hy := ifF hy h3
   refine at_exit <| at_te <| at_te <| at_inBlock <| ?_
   replace hy := sj hy
   subst hy
   refine metI v1_10 r hc1 (.k r r (.k r r .nil)) .nil
 ·rintro v1_11 cl hy
  subst hk1
  change At _ cl (mk _ _) _
  refine reg 11 r <| mv r r r <| lnf (f := I) slB29 r r r <| bn r r r r r <| mv r r r <| cas 122 r (fun h2 => ?_) (fun h2 => ?_)
  ·replace hy := ifT hy h2
   refine mv r r r <| mv r r r <| ?_
   obtain ⟨i20, v21, qi20, xv21, hy⟩ := ixI hy
   refine fixP (f := I) sl29 qi20 xv21 r r r r <| fld tk3 r r r r <| ?_
   obtain ⟨r22, qr22, hy⟩ := bndI hy
   refine clp (w_r18_in qr22) ca77 r r (.cons (pu_I _) (.cons (pu_I _) (.nil))) (.one (pu_B _)) r <| pkt r r r r r <| asg r r r <| dn <| at_ret <| ?_
   replace hy := sj hy
   subst hy
   exact out1 r (.inl r) (look_of r) r (pu_B _)
  ·replace hy := ifF hy h2
   refine sk r r <| sk r r <| sk r r <| sk r r <| sk r r <| pkf r r r r r <| asg r r r <| dn <| at_ret <| ?_
   replace hy := sj hy
   subst hy
   exact out1 r (.inl r) (look_of r) r (pu_B _)
def p_r18_Right_L2 (K : Nat) (a0 : Fo) : Nat → Int → Int → (List Int) → Int → (List Bool) → Option (Sum (Int × Int × (List Bool)) (Sum Int Bool))
 | 0, _, _, _, _, _ => none
 | n+1, v4_1, v5_1, v7_1, v8_1, l2_1 => (bif (decide (v8_1 < (v7_1.length : Int))) then (ixP v7_1 v8_1 fun v13 => (bif (decide (v13 < a0.n)) then (ixP v7_1 v8_1 fun v15 => (bdP l2_1.length v15 fun i16 => gtP l2_1 i16 fun v17 => (bif v17 then some (.inr (.inr false)) else (ixP v7_1 v8_1 fun v19 => (bdP l2_1.length v19 fun i20 => gtP l2_1 i20 fun v21 => p_r18_Right_L2 K a0 n v4_1 (w64 (v5_1 + 1)) v7_1 (w64 (v8_1 + 1)) (l2_1.set i20 true)))))) else p_r18_Right_L2 K a0 n v4_1 v5_1 v7_1 (w64 (v8_1 + 1)) l2_1)) else some (.inl (v4_1, v5_1, l2_1)))
def p_r18_Right_L1 (K : Nat) (a0 : Fo) : Nat → Int → Int → Int → (List Bool) → Option (Sum Int Bool)
 | 0, _, _, _, _ => none
 | n+1, v4_3, v5_3, v6_3, l2_3 => (bif (decide (v6_3 < (a0.rings.length : Int))) then (((ixP a0.rings v6_3 fun v3 => ((p_r13_Right K v3).bind fun r4 => (bif (!r4) then some (.inr (.inr false)) else (bif ((v3.length : Int) == 0) then some (.inr (.inr false)) else ((p_r18_tree K a0.n v3).bind fun r5 => (bif (!r5) then some (.inr (.inr false)) else ((p_r13_Plain K v3).bind fun r6 => ((p_r14_Lists K [r6] [v3]).bind fun r7 => (bif (!r7) then some (.inr (.inr false)) else (ixP v3 0 fun v9 => (bif (decide (v9 ≤ v4_3)) then some (.inr (.inr false)) else (ixP v3 0 fun v11 => p_r18_Right_L2 K a0 K v11 v5_3 v3 0 l2_3)))))))))))) : Option (Sum (Int × Int × (List Bool)) (Sum Int Bool))).bind fun | .inl (v4_2, v5_2, l2_2) => p_r18_Right_L1 K a0 n v4_2 v5_2 (w64 (v6_3 + 1)) l2_2 | .inr r => some r) else some (.inl v5_3))
def p_r18_Right (K : Nat) (a0 : Fo) : Option Bool :=
 (bif (decide (a0.n < 1)) then some false else (bif (decide (a0.n > 64)) then some false else (bif (decide ((a0.rings.length : Int) > a0.n)) then some false else (mkP 1 a0.n fun i1 => ((p_r18_Right_L1 K a0 K (-1) 0 0 (List.replicate i1 (false : Bool)) : Option (Sum Int Bool)).bind fun | .inl v5_4 => some (v5_4 == a0.n) | .inr r => some r)))))
theorem w_r18_Right {K : Nat} {a0 : Fo} {y : Bool} (hy : p_r18_Right K a0 = some y) : Does PP GV 76 [] [(FoA a0)] [] [] (B y) := by
 unfold p_r18_Right at hy
 refine does_of at76 r (le_ok r) <| ?_
 rintro ⟨_, base, w0, F⟩ rfl
 refine reg 2 r <| bx 1 r r r r <| asg r r r <| dn <| at_seq <| reg 16 r <| fa fo81_0 r r r <| ld tk3 r r r r r r <| bn r r r r r <| mv r r r <| cas 12 r (fun h1 => ?_) (fun h1 => ?_)
 ·replace hy := ifT hy h1
  refine sk r r <| sk r r <| sk r r <| pkt r r r r r <| mv r r r <| sk r r <| sk r r <| sk r r <| sk r r <| sk r r <| sk r r <| pkt r r r r r <| dn <| cdt r <| reg 1 r <| asg r r r <| dn <| at_ret <| ?_
  replace hy := sj hy
  subst hy
  exact out1 r (.inl r) (look_of r) r (pu_B _)
 ·replace hy := ifF hy h1
  refine fa fo81_0 r r r <| ld tk3 r r r r r r <| bn r r r r r <| pkf r r r r r <| mv r r r <| cas 17 r (fun h2 => ?_) (fun h2 => ?_)
  ·replace hy := ifT hy h2
   refine sk r r <| sk r r <| sk r r <| sk r r <| sk r r <| sk r r <| pkt r r r r r <| dn <| cdt r <| reg 1 r <| asg r r r <| dn <| at_ret <| ?_
   replace hy := sj hy
   subst hy
   exact out1 r (.inl r) (look_of r) r (pu_B _)
  ·replace hy := ifF hy h2
   refine fa fo81_1 r r r <| ld tk30 r r r r r r <| lnf (f := (SL 1 I)) slB30 r r r <| fa fo81_0 r r r <| ld tk3 r r r r r r <| bn r r r r r <| pkf r r r r r <| dn <| cd r (fun h3 => ?_) (fun h3 => ?_)
   ·replace hy := ifT hy h3
    refine reg 1 r <| asg r r r <| dn <| at_ret <| ?_
    replace hy := sj hy
    subst hy
    exact out1 r (.inl r) (look_of r) r (pu_B _)
   ·replace hy := ifF hy h3
    refine at_skip <| reg 4 r <| fa fo81_0 r r r <| ld tk3 r r r r r r <| ?_
    obtain ⟨i1, qi1, bi1, hy⟩ := mkI hy
    refine mksP (f := B) false 2 se66 qi1 bi1 r r r r r r <| asg r r r <| dn <| reg 1 r <| asg r r r <| dn <| reg 1 r <| asg r r r <| dn <| ?_
    obtain ⟨o1, hy, k1, hk1, hc1⟩ := bndK hy
    refine meetI (fun (p : Int × Nat) => match p with | (v5_4, g1_1) => mk [(1, .ptr 1 g1_1 0 0), (5, (I v5_4))] [(1, some (g1_1, .buf 2 [.agg [(I a0.n), ((SL 1 (SL 1 I)) a0.rings)]]))]) (fun p => match p with | (v5_4, g1_1) => k1 (.inl v5_4) = some y) ?_ ?_
    ·skip
     refine reg 1 r <| asg r r r <| dn <| at_block <| wk (T' := [(1, .ptr 1 _ 0 0), (3, .own 2 _ 1 0 ((List.replicate i1 (false : Bool))).length false), (4, (I (-1))), (5, (I 0)), (6, (I 0))]) (H' := [(1, some (_, .buf 2 [.agg [(I a0.n), ((SL 1 (SL 1 I)) a0.rings)]])), (2, some (_, .buf 1 ((List.replicate i1 (false : Bool)).map B)))]) (.k r r (.k r r (.k r r (.k r r (.k r r .nil))))) (.k r r (.k r r .nil)) <| loopI (fun (p : Nat × Int × Int × Int × (List Bool) × Nat × Nat) => match p with | (n2, v4_3, v5_3, v6_3, l2_3, g1_2, g2_2) => mk [(1, .ptr 1 g1_2 0 0), (3, .own 2 g2_2 1 0 (l2_3).length false), (4, (I v4_3)), (5, (I v5_3)), (6, (I v6_3))] [(1, some (g1_2, .buf 2 [.agg [(I a0.n), ((SL 1 (SL 1 I)) a0.rings)]])), (2, some (g2_2, .buf 1 (l2_3.map B)))]) (fun p => match p with | (n2, v4_3, v5_3, v6_3, l2_3, g1_2, g2_2) => p_r18_Right_L1 K a0 n2 v4_3 v5_3 v6_3 l2_3 = some o1) (fun p => p.1) ?_ (K, (-1), 0, 0, (List.replicate i1 (false : Bool)), _, _) hy _
     rintro ⟨n2, v4_3, v5_3, v6_3, l2_3, g1_2, g2_2⟩ cl hy
     cases n2 with | zero => cases hy | succ n2 => ?_
     change At _ cl (mk _ _) _
     replace hy : p_r18_Right_L1 K a0 (n2+1) v4_3 v5_3 v6_3 l2_3 = some o1 := hy
     rw [p_r18_Right_L1] at hy
     refine at_seq <| reg 5 r <| mv r r r <| fa fo81_1 r r r <| ld tk30 r r r r r r <| lnf (f := (SL 1 I)) slB30 r r r <| bn r r r r r <| dn <| cd r (fun h6 => ?_) (fun h6 => ?_)
     ·replace hy := ifT hy h6
      refine at_skip <| ?_
      obtain ⟨o3, hy, k3, hk3, hc3⟩ := bndK hy
      refine meetI (fun (p : Int × Int × (List Bool) × Nat × Nat) => match p with | (v4_2, v5_2, l2_2, g1_3, g2_3) => mk [(1, .ptr 1 g1_3 0 0), (3, .own 2 g2_3 1 0 (l2_2).length false), (4, (I v4_2)), (5, (I v5_2)), (6, (I v6_3))] [(1, some (g1_3, .buf 2 [.agg [(I a0.n), ((SL 1 (SL 1 I)) a0.rings)]])), (2, some (g2_3, .buf 1 (l2_2.map B)))]) (fun p => match p with | (v4_2, v5_2, l2_2, g1_3, g2_3) => k3 (.inl (v4_2, v5_2, l2_2)) = some o1) ?_ ?_
      ·skip
       refine at_block <| reg 6 r <| fa fo81_1 r r r <| ld tk30 r r r r r r <| mv r r r <| ?_
       obtain ⟨i2, v3, qi2, xv3, hy⟩ := ixI hy
       refine fixP (f := (SL 1 I)) sl30 qi2 xv3 r r r r <| fld tk29 r r r r <| asg r r r <| dn <| at_seq <| reg 31 r <| mv r r r <| ?_
       obtain ⟨r4, qr4, hy⟩ := bndI hy
       refine clp (w_r13_Right qr4) ca48 r r (.cons ((pu_l 1 pu_I) _) (.nil)) (.one (pu_B _)) r <| nt r r r <| mv r r r <| cas 43 r (fun h8 => ?_) (fun h8 => ?_)
       ·replace hy := ifT hy h8
        refine sk r r <| sk r r <| sk r r <| pkt r r r r r <| mv r r r <| sk r r <| sk r r <| sk r r <| sk r r <| sk r r <| pkt r r r r r <| mv r r r <| sk r r <| sk r r <| sk r r <| sk r r <| sk r r <| sk r r <| sk r r <| pkt r r r r r <| mv r r r <| sk r r <| sk r r <| sk r r <| sk r r <| sk r r <| pkt r r r r r <| dn <| cdt r <| reg 1 r <| asg r r r <| dn <| at_ret <| ?_
        replace hy := sj hy
        subst hy
        subst hk3
        replace hc3 := Option.some.inj hc3
        subst hc3
        subst hk1
        replace hc1 := Option.some.inj hc1
        subst hc1
        exact out1 r (.inl r) (look_of r) r (pu_B _)
       ·replace hy := ifF hy h8
        refine mv r r r <| lnf (f := I) slB29 r r r <| bn r r r r r <| pkf r r r r r <| mv r r r <| cas 48 r (fun h9 => ?_) (fun h9 => ?_)
        ·replace hy := ifT hy h9
         refine sk r r <| sk r r <| sk r r <| sk r r <| sk r r <| pkt r r r r r <| mv r r r <| sk r r <| sk r r <| sk r r <| sk r r <| sk r r <| sk r r <| sk r r <| pkt r r r r r <| mv r r r <| sk r r <| sk r r <| sk r r <| sk r r <| sk r r <| pkt r r r r r <| dn <| cdt r <| reg 1 r <| asg r r r <| dn <| at_ret <| ?_
         replace hy := sj hy
         subst hy
         subst hk3
         replace hc3 := Option.some.inj hc3
         subst hc3
         subst hk1
         replace hc1 := Option.some.inj hc1
         subst hc1
         exact out1 r (.inl r) (look_of r) r (pu_B _)
        ·replace hy := ifF hy h9
         refine fa fo81_0 r r r <| ld tk3 r r r r r r <| mv r r r <| ?_
         obtain ⟨r5, qr5, hy⟩ := bndI hy
         refine clp (w_r18_tree qr5) ca100 r r (.cons (pu_I _) (.cons ((pu_l 1 pu_I) _) (.nil))) (.one (pu_B _)) r <| nt r r r <| pkf r r r r r <| mv r r r <| cas 55 r (fun h10 => ?_) (fun h10 => ?_)
         ·replace hy := ifT hy h10
          refine sk r r <| sk r r <| sk r r <| sk r r <| sk r r <| sk r r <| sk r r <| pkt r r r r r <| mv r r r <| sk r r <| sk r r <| sk r r <| sk r r <| sk r r <| pkt r r r r r <| dn <| cdt r <| reg 1 r <| asg r r r <| dn <| at_ret <| ?_
          replace hy := sj hy
          subst hy
          subst hk3
          replace hc3 := Option.some.inj hc3
          subst hc3
          subst hk1
          replace hc1 := Option.some.inj hc1
          subst hc1
          exact out1 r (.inl r) (look_of r) r (pu_B _)
         ·replace hy := ifF hy h10
          refine mv r r r <| ?_
          obtain ⟨r6, qr6, hy⟩ := bndI hy
          refine clp (w_r13_Plain qr6) ca101 r r (.cons ((pu_l 1 pu_I) _) (.nil)) (.one ((pu_l 1 pu_I) _)) r <| bldsF (SL 1 I) ([r6] : List (List Int)) 3 (pu_l 1 pu_I) se30 r r r r r r r <| mv r r r <| bldsF (SL 1 I) ([v3] : List (List Int)) 4 (pu_l 1 pu_I) se30 r r r r r r r <| ?_
          obtain ⟨r7, qr7, hy⟩ := bndI hy
          refine clp (w_r14_Lists qr7) ca10 r r (.cons ((pu_l 1 (pu_l 1 pu_I)) _) (.cons ((pu_l 1 (pu_l 1 pu_I)) _) (.nil))) (.one (pu_B _)) r <| nt r r r <| pkf r r r r r <| mv r r r <| cas 64 r (fun h11 => ?_) (fun h11 => ?_)
          ·replace hy := ifT hy h11
           refine sk r r <| sk r r <| sk r r <| sk r r <| sk r r <| pkt r r r r r <| dn <| cdt r <| reg 1 r <| asg r r r <| dn <| at_ret <| ?_
           replace hy := sj hy
           subst hy
           subst hk3
           replace hc3 := Option.some.inj hc3
           subst hc3
           subst hk1
           replace hc1 := Option.some.inj hc1
           subst hc1
           exact out1 r (.inl r) (look_of r) r (pu_B _)
          ·replace hy := ifF hy h11
           refine mv r r r <| ?_
           obtain ⟨i8, v9, qi8, xv9, hy⟩ := ixI hy
           refine fixP (f := I) sl29 qi8 xv9 r r r r <| fld tk3 r r r r <| mv r r r <| bn r r r r r <| pkf r r r r r <| dn <| cd r (fun h12 => ?_) (fun h12 => ?_)
           ·replace hy := ifT hy h12
            refine reg 1 r <| asg r r r <| dn <| at_ret <| ?_
            replace hy := sj hy
            subst hy
            subst hk3
            replace hc3 := Option.some.inj hc3
            subst hc3
            subst hk1
            replace hc1 := Option.some.inj hc1
            subst hc1
            exact out1 r (.inl r) (look_of r) r (pu_B _)
           ·replace hy := ifF hy h12
            refine at_skip <| reg 4 r <| mv r r r <| ?_
            obtain ⟨i10, v11, qi10, xv11, hy⟩ := ixI hy
            refine fixP (f := I) sl29 qi10 xv11 r r r r <| fld tk3 r r r r <| asg r r r <| dn <| reg 1 r <| asg r r r <| dn <| at_block <| wk (T' := [(1, .ptr 1 _ 0 0), (3, .own 2 _ 1 0 (l2_3).length false), (4, (I v11)), (5, (I v5_3)), (6, (I v6_3)), (7, ((SL 1 I) v3)), (8, (I 0))]) (H' := [(1, some (_, .buf 2 [.agg [(I a0.n), ((SL 1 (SL 1 I)) a0.rings)]])), (2, some (_, .buf 1 (l2_3.map B)))]) (.k r r (.k r r (.k r r (.k r r (.k r r (.k r r (.k r r .nil))))))) (.k r r (.k r r .nil)) <| loopI (fun (p : Nat × Int × Int × (List Int) × Int × (List Bool) × Nat × Nat) => match p with | (n4, v4_1, v5_1, v7_1, v8_1, l2_1, g1_4, g2_4) => mk [(1, .ptr 1 g1_4 0 0), (3, .own 2 g2_4 1 0 (l2_1).length false), (4, (I v4_1)), (5, (I v5_1)), (6, (I v6_3)), (7, ((SL 1 I) v7_1)), (8, (I v8_1))] [(1, some (g1_4, .buf 2 [.agg [(I a0.n), ((SL 1 (SL 1 I)) a0.rings)]])), (2, some (g2_4, .buf 1 (l2_1.map B)))]) (fun p => match p with | (n4, v4_1, v5_1, v7_1, v8_1, l2_1, g1_4, g2_4) => p_r18_Right_L2 K a0 n4 v4_1 v5_1 v7_1 v8_1 l2_1 = some o3) (fun p => p.1) ?_ (K, v11, v5_3, v3, 0, l2_3, _, _) hy _
            rintro ⟨n4, v4_1, v5_1, v7_1, v8_1, l2_1, g1_4, g2_4⟩ cl hy
            cases n4 with | zero => cases hy | succ n4 => ?_
            change At _ cl (mk _ _) _
            replace hy : p_r18_Right_L2 K a0 (n4+1) v4_1 v5_1 v7_1 v8_1 l2_1 = some o3 := hy
            rw [p_r18_Right_L2] at hy
            refine at_seq <| reg 4 r <| mv r r r <| mv r r r <| lnf (f := I) slB29 r r r <| bn r r r r r <| dn <| cd r (fun h14 => ?_) (fun h14 => ?_)
            ·replace hy := ifT hy h14
             refine at_skip <| at_seq <| at_block <| regd mixed 7 r <| mv r r r <| mv r r r <| ?_
             obtain ⟨i12, v13, qi12, xv13, hy⟩ := ixI hy
             refine fixP (f := I) sl29 qi12 xv13 r r r r <| fld tk3 r r r r <| fa fo81_0 r r r <| ld tk3 r r r r r r <| bn r r r r r <| dn ⟨by kernel_rfl, ?_⟩
             refine cd r (fun h15 => ?_) (fun h15 => ?_)
             ·replace hy := ifT hy h15
              refine at_seq <| reg 7 r <| mv r r r <| mv r r r <| mv r r r <| ?_
              obtain ⟨i14, v15, qi14, xv15, hy⟩ := ixI hy
              refine fixP (f := I) sl29 qi14 xv15 r r r r <| fld tk3 r r r r <| ?_
              obtain ⟨i16, qi16, bi16, hy⟩ := bdI hy
              obtain ⟨v17, xv17, hy⟩ := gtI hy
              refine ixP' sl66 qi16 bi16 r r r r <| ldP (f := B) tk4 xv17 r r r r r <| dn <| cd r (fun h16 => ?_) (fun h16 => ?_)
              ·replace hy := ifT hy h16
               refine reg 1 r <| asg r r r <| dn <| at_ret <| ?_
               replace hy := sj hy
               subst hy
               subst hk3
               replace hc3 := Option.some.inj hc3
               subst hc3
               subst hk1
               replace hc1 := Option.some.inj hc1
               subst hc1
               exact out1 r (.inl r) (look_of r) r (pu_B _)
              ·replace hy := ifF hy h16
               refine at_skip <| reg 7 r <| mv r r r <| mv r r r <| mv r r r <| ?_
               obtain ⟨i18, v19, qi18, xv19, hy⟩ := ixI hy
               refine fixP (f := I) sl29 qi18 xv19 r r r r <| fld tk3 r r r r <| ?_
               obtain ⟨i20, qi20, bi20, hy⟩ := bdI hy
               obtain ⟨v21, xv21, hy⟩ := gtI hy
               refine ixP' sl66 qi20 bi20 r r r r <| stP (f := B) (true) tk4 xv21 r r r r r r <| dn <| reg1 3 r <| mv r r r <| bn r r r r r <| asg r r r <| dn <| at_bn <| reg1 3 r <| mv r r r <| bn r r r r r <| asg r r r <| dn <| againI (n4, v4_1, (w64 (v5_1 + 1)), v7_1, (w64 (v8_1 + 1)), (l2_1.set i20 true), _, _) r hy (Nat.lt_succ_self _) (.k r r (.k r (by simp) (.k r r (.k r r (.k r r (.k r r (.k r r .nil))))))) (.k r r (.k r r .nil))
             ·replace hy := ifF hy h15
              refine at_skip <| at_bn <| reg1 3 r <| mv r r r <| bn r r r r r <| asg r r r <| dn <| againI (n4, v4_1, v5_1, v7_1, (w64 (v8_1 + 1)), l2_1, _, _) r hy (Nat.lt_succ_self _) (.k r r (.k r r (.k r r (.k r r (.k r r (.k r r (.k r r .nil))))))) (.k r r (.k r r .nil))
            ·replace hy := ifF hy h14
             refine at_exit <| at_te <| at_te <| at_inBlock <| at_bn <| ?_
             replace hy := sj hy
             subst hy
             refine metI (v4_1, v5_1, l2_1, _, _) r hc3 (.k r r (.k r r (.k r r (.k r r (.k r r .nil))))) (.k r r (.k r r .nil))
      ·rintro ⟨v4_2, v5_2, l2_2, g1_3, g2_3⟩ cl hy
       subst hk3
       change At _ cl (mk _ _) _
       refine reg1 3 r <| mv r r r <| bn r r r r r <| asg r r r <| dn <| againI (n2, v4_2, v5_2, (w64 (v6_3 + 1)), l2_2, _, _) r hy (Nat.lt_succ_self _) (.k r r (.k r r (.k r r (.k r r (.k r r .nil))))) (.k r r (.k r r .nil))
     ·replace hy := ifF hy h6
      refine at_exit <| at_te <| at_te <| at_inBlock <| ?_
      replace hy := sj hy
      subst hy
      refine metI (v5_3, _) r hc1 (.k r r (.k r r .nil)) (.k r r .nil)
    ·rintro ⟨v5_4, g1_1⟩ cl hy
     subst hk1
     change At _ cl (mk _ _) _
     refine reg 5 r <| mv r r r <| fa fo81_0 r r r <| ld tk3 r r r r r r <| bn r r r r r <| asg r r r <| dn <| at_ret <| ?_
     replace hy := sj hy
     subst hy
     exact out1 r (.inl r) (look_of r) r (pu_B _)
end Go.Ar
namespace Go.Ar
open Go.RowKit
def p_r18_place_L1 (K : Nat) (a0 : Fo) (a1 : Int) : Nat → Int → Option (Sum Unit Int)
 | 0, _ => none
 | n+1, v5_1 => (bif (decide (v5_1 < (a0.rings.length : Int))) then (ixP a0.rings v5_1 fun v2 => ((p_r13_Place K v2 a1).bind fun r3 => (bif (decide (r3 ≥ 0)) then some (.inr v5_1) else p_r18_place_L1 K a0 a1 n (w64 (v5_1 + 1))))) else some (.inl ()))
def p_r18_place (K : Nat) (a0 : Fo) (a1 : Int) : Option Int :=
 ((p_r18_place_L1 K a0 a1 K 0 : Option (Sum Unit Int)).bind fun | .inl _ => some (-1) | .inr r => some r)
theorem w_r18_place {K : Nat} {a0 : Fo} {a1 : Int} {y : Int} (hy : p_r18_place K a0 a1 = some y) : Does PP GV 78 [] [(FoA a0), (I a1)] [] [] (I y) := by
 unfold p_r18_place at hy
 refine does_of at78 r (le_ok r) <| ?_
 rintro ⟨_, base, w0, F⟩ rfl
 refine reg 2 r <| bx 1 r r r r <| asg r r r <| dn <| ?_
 obtain ⟨o1, hy, k1, hk1, hc1⟩ := bndK hy
 refine meetI (fun (p : Unit) => match p with | _ => mk [] []) (fun p => match p with | _ => k1 (.inl ()) = some y) ?_ ?_
 ·skip
  refine reg 1 r <| asg r r r <| dn <| at_block <| wk (T' := [(1, (I a1)), (2, .ptr 1 _ 0 0), (5, (I 0))]) (H' := [(1, some (_, .buf 2 [.agg [(I a0.n), ((SL 1 (SL 1 I)) a0.rings)]]))]) (.k r r (.k r r (.k r r .nil))) (.k r r .nil) <| loopI (fun (p : Nat × Int × Nat) => match p with | (n2, v5_1, g1_2) => mk [(1, (I a1)), (2, .ptr 1 g1_2 0 0), (5, (I v5_1))] [(1, some (g1_2, .buf 2 [.agg [(I a0.n), ((SL 1 (SL 1 I)) a0.rings)]]))]) (fun p => match p with | (n2, v5_1, g1_2) => p_r18_place_L1 K a0 a1 n2 v5_1 = some o1) (fun p => p.1) ?_ (K, 0, _) hy _
  rintro ⟨n2, v5_1, g1_2⟩ cl hy
  cases n2 with | zero => cases hy | succ n2 => ?_
  change At _ cl (mk _ _) _
  replace hy : p_r18_place_L1 K a0 a1 (n2+1) v5_1 = some o1 := hy
  rw [p_r18_place_L1] at hy
  refine at_seq <| reg 5 r <| mv r r r <| fa fo81_1 r r r <| ld tk30 r r r r r r <| lnf (f := (SL 1 I)) slB30 r r r <| bn r r r r r <| dn <| cd r (fun h3 => ?_) (fun h3 => ?_)
  ·replace hy := ifT hy h3
   refine at_skip <| at_seq <| at_block <| reg 8 r <| fa fo81_1 r r r <| ld tk30 r r r r r r <| mv r r r <| ?_
   obtain ⟨i1, v2, qi1, xv2, hy⟩ := ixI hy
   refine fixP (f := (SL 1 I)) sl30 qi1 xv2 r r r r <| fld tk29 r r r r <| mv r r r <| ?_
   obtain ⟨r3, qr3, hy⟩ := bndI hy
   refine clp (w_r13_Place qr3) ca79 r r (.cons ((pu_l 1 pu_I) _) (.cons (pu_I _) (.nil))) (.one (pu_I _)) r <| bn r r r r r <| dn <| cd r (fun h4 => ?_) (fun h4 => ?_)
   ·replace hy := ifT hy h4
    refine reg 2 r <| mv r r r <| asg r r r <| dn <| at_ret <| ?_
    replace hy := sj hy
    subst hy
    subst hk1
    replace hc1 := Option.some.inj hc1
    subst hc1
    exact out1 r (.inl r) (look_of r) r (pu_I _)
   ·replace hy := ifF hy h4
    refine at_skip <| at_bn <| reg1 3 r <| mv r r r <| bn r r r r r <| asg r r r <| dn <| againI (n2, (w64 (v5_1 + 1)), _) r hy (Nat.lt_succ_self _) (.k r r (.k r r (.k r r .nil))) (.k r r .nil)
  ·replace hy := ifF hy h3
   refine at_exit <| at_te <| at_te <| at_inBlock <| ?_
   replace hy := sj hy
   subst hy
   refine metI () r hc1 .nil .nil
 ·rintro ⟨⟩ cl hy
  subst hk1
  change At _ cl (mk _ _) _
  refine reg 1 r <| asg r r r <| dn <| at_ret <| ?_
  replace hy := sj hy
  subst hy
  exact out1 r (.inl r) (look_of r) r (pu_I _)
def p_r18_Of (K : Nat) (a0 : Fo) (a1 : Int) : Option Int :=
 ((p_r18_Right K a0).bind fun r1 => (bif (!r1) then some (-1) else ((p_r18_in K a0.n a1).bind fun r2 => (bif (!r2) then some (-1) else ((p_r18_place K a0 a1).bind fun r3 => some r3)))))
theorem w_r18_Of {K : Nat} {a0 : Fo} {a1 : Int} {y : Int} (hy : p_r18_Of K a0 a1 = some y) : Does PP GV 47 [] [(FoA a0), (I a1)] [] [] (I y) := by
 unfold p_r18_Of at hy
 refine does_of at47 r (le_ok r) <| ?_
 rintro ⟨_, base, w0, F⟩ rfl
 refine reg 2 r <| bx 1 r r r r <| asg r r r <| dn <| at_seq <| reg 10 r <| ldw tk81 r r r r r r <| ?_
 obtain ⟨r1, qr1, hy⟩ := bndI hy
 refine clp (w_r18_Right qr1) ca76 r r (.cons (pu_Fo _) (.nil)) (.one (pu_B _)) r <| nt r r r <| mv r r r <| cas 8 r (fun h1 => ?_) (fun h1 => ?_)
 ·replace hy := ifT hy h1
  refine sk r r <| sk r r <| sk r r <| sk r r <| sk r r <| pkt r r r r r <| dn <| cdt r <| reg 1 r <| asg r r r <| dn <| at_ret <| ?_
  replace hy := sj hy
  subst hy
  exact out1 r (.inl r) (look_of r) r (pu_I _)
 ·replace hy := ifF hy h1
  refine fa fo81_0 r r r <| ld tk3 r r r r r r <| mv r r r <| ?_
  obtain ⟨r2, qr2, hy⟩ := bndI hy
  refine clp (w_r18_in qr2) ca77 r r (.cons (pu_I _) (.cons (pu_I _) (.nil))) (.one (pu_B _)) r <| nt r r r <| pkf r r r r r <| dn <| cd r (fun h2 => ?_) (fun h2 => ?_)
  ·replace hy := ifT hy h2
   refine reg 1 r <| asg r r r <| dn <| at_ret <| ?_
   replace hy := sj hy
   subst hy
   exact out1 r (.inl r) (look_of r) r (pu_I _)
  ·replace hy := ifF hy h2
   refine at_skip <| reg 4 r <| ldw tk81 r r r r r r <| mv r r r <| ?_
   obtain ⟨r3, qr3, hy⟩ := bndI hy
   refine clp (w_r18_place qr3) ca78 r r (.cons (pu_Fo _) (.cons (pu_I _) (.nil))) (.one (pu_I _)) r <| asg r r r <| dn <| at_ret <| ?_
   replace hy := sj hy
   subst hy
   exact out1 r (.inl r) (look_of r) r (pu_I _)
def p_r18_Make_L1 (K : Nat) (a0 : Int) : Nat → Int → (List (List Int)) → Option (List (List Int))
 | 0, _, _ => none
 | n+1, v5_1, l2021_1 => (bif (decide (v5_1 < a0)) then (apP 24 l2021_1.length [[v5_1]].length (p_r18_Make_L1 K a0 n (w64 (v5_1 + 1)) (l2021_1 ++ [[v5_1]]))) else some l2021_1)
def p_r18_Make (K : Nat) (a0 : Int) : Option (Fo × Int) :=
 (bif (decide (a0 < 1)) then some ((Fo.mk 0 []), 1) else (bif (decide (a0 > 64)) then some ((Fo.mk 0 []), 1) else ((p_r18_Make_L1 K a0 K 0 [] : Option (List (List Int))).bind fun l2021_2 => some ((Fo.mk a0 l2021_2), 0))))
theorem w_r18_Make {K : Nat} {a0 : Int} {y : (Fo × Int)} (hy : p_r18_Make K a0 = some y) : Does PP GV 98 [] [(I a0)] [] [] (.tup [(FoA y.1), (I y.2)]) := by
 unfold p_r18_Make at hy
 refine does_of at98 r (le_ok r) <| ?_
 rintro ⟨_, base, w0, F⟩ rfl
 refine reg 2 r <| rg_alloc (s := 1) (gd_of r) zc81 (elems_one (by rfl)) (lt_ok r) <| asg r r r <| dn <| at_seq <| reg 6 r <| mv r r r <| bn r r r r r <| mv r r r <| cas 8 r (fun h1 => ?_) (fun h1 => ?_)
 ·replace hy := ifT hy h1
  refine sk r r <| sk r r <| pkt r r r r r <| dn <| cdt r <| reg 3 r <| bld bd81 r r r r <| str tk81 r r r r r r r <| asg r r r <| dn <| at_ret <| cellN (SL 1 I) 1 1 1 r r <| ?_
  replace hy := sj hy
  subst hy
  exact endZ [] (rs := [_, _]) r (by simp) (.inl r) (.cell _ _ _ _ _ _ _ _ _ _ _ _ _ r r r tk81 r (.tmp _ _ _ _ r .nil)) (by simp) (PuL.rn (xs := [(FoA (Fo.mk 0 [])), (I 1)]) (.cons (pu_Fo _) (.cons (pu_I _) (.nil))))
 ·replace hy := ifF hy h1
  refine mv r r r <| bn r r r r r <| pkf r r r r r <| dn <| cd r (fun h2 => ?_) (fun h2 => ?_)
  ·replace hy := ifT hy h2
   refine reg 3 r <| bld bd81 r r r r <| str tk81 r r r r r r r <| asg r r r <| dn <| at_ret <| cellN (SL 1 I) 1 1 1 r r <| ?_
   replace hy := sj hy
   subst hy
   exact endZ [] (rs := [_, _]) r (by simp) (.inl r) (.cell _ _ _ _ _ _ _ _ _ _ _ _ _ r r r tk81 r (.tmp _ _ _ _ r .nil)) (by simp) (PuL.rn (xs := [(FoA (Fo.mk 0 [])), (I 1)]) (.cons (pu_Fo _) (.cons (pu_I _) (.nil))))
  ·replace hy := ifF hy h2
   refine at_skip <| reg 4 r <| mv r r r <| bld bd81 r r r r <| rg_alloc (s := 2) (gd_of r) zc81 (elems_one (by rfl)) (lt_ok r) <| str tk81 r r r r r r r <| dn <| ?_
   obtain ⟨o1, hy, k1, hk1, hc1⟩ := bndK hy
   refine meetI (fun (p : (List (List Int)) × Nat × Nat × Nat) => match p with | (l2021_2, g1_1, g2_1, g2021_1) => mk [(2, .ptr 1 g1_1 0 0), (4, .ptr 2 g2_1 0 0)] [(1, some (g1_1, .buf 2 [.agg [(I 0), .v (.slice none 0 0)]])), (2, some (g2_1, .buf 2 [.agg [(I a0), .own 2021 g2021_1 1 0 (l2021_2).length false]])), (2021, some (g2021_1, .buf 1 (l2021_2.map (SL 1 I))))]) (fun p => match p with | (l2021_2, g1_1, g2_1, g2021_1) => k1 l2021_2 = some y) ?_ ?_
   ·skip
    refine reg 1 r <| asg r r r <| dn <| at_block <| cellO (SL 1 I) 2 2021 1 1 r r r <| wk (T' := [(0, (I a0)), (2, .ptr 1 _ 0 0), (4, .ptr 2 _ 0 0), (5, (I 0))]) (H' := [(1, some (_, .buf 2 [.agg [(I 0), .v (.slice none 0 0)]])), (2, some (_, .buf 2 [.agg [(I a0), .own 2021 _ 1 0 ([]).length false]])), (2021, some (_, .buf 1 ([].map (SL 1 I))))]) (.k r r (.k r r (.k r r (.k r r .nil)))) (.k r r (.k r r (.k r r .nil))) <| loopI (fun (p : Nat × Int × (List (List Int)) × Nat × Nat × Nat) => match p with | (n2, v5_1, l2021_1, g1_2, g2_2, g2021_2) => mk [(0, (I a0)), (2, .ptr 1 g1_2 0 0), (4, .ptr 2 g2_2 0 0), (5, (I v5_1))] [(1, some (g1_2, .buf 2 [.agg [(I 0), .v (.slice none 0 0)]])), (2, some (g2_2, .buf 2 [.agg [(I a0), .own 2021 g2021_2 1 0 (l2021_1).length false]])), (2021, some (g2021_2, .buf 1 (l2021_1.map (SL 1 I))))]) (fun p => match p with | (n2, v5_1, l2021_1, g1_2, g2_2, g2021_2) => p_r18_Make_L1 K a0 n2 v5_1 l2021_1 = some o1) (fun p => p.1) ?_ (K, 0, [], _, _, _) hy _
    rintro ⟨n2, v5_1, l2021_1, g1_2, g2_2, g2021_2⟩ cl hy
    cases n2 with | zero => cases hy | succ n2 => ?_
    change At _ cl (mk _ _) _
    replace hy : p_r18_Make_L1 K a0 (n2+1) v5_1 l2021_1 = some o1 := hy
    rw [p_r18_Make_L1] at hy
    refine at_seq <| reg 3 r <| mv r r r <| mv r r r <| bn r r r r r <| dn <| cd r (fun h5 => ?_) (fun h5 => ?_)
    ·replace hy := ifT hy h5
     refine at_skip <| at_seq <| at_block <| reg1 8 r <| fa fo81_1 r r r <| ld tk30 r r r r r r <| mv r r r <| bldsF I ([v5_1] : List Int) 3 pu_I se29 r r r r r r r <| bldsP (SL 1 I) ([[v5_1]] : List (List Int)) 4 se30 r r r r r r r <| ?_
     obtain ⟨k1a, k1b, hy⟩ := apI hy
     refine apoP (f := (SL 1 I)) (l := l2021_1) (zs := [[v5_1]]) se30 k1a k1b r r r r r r <| fa fo81_1 r r r <| str tk30 r r r r r r r <| dn <| at_bn <| reg1 3 r <| mv r r r <| bn r r r r r <| asg r r r <| dn <| againI (n2, (w64 (v5_1 + 1)), (l2021_1 ++ [[v5_1]]), _, _, _) r hy (Nat.lt_succ_self _) (.k r r (.k r r (.k r r (.k r r .nil)))) (.k r r (.k r r (.k r r .nil)))
    ·replace hy := ifF hy h5
     refine at_exit <| at_te <| at_te <| at_inBlock <| ?_
     replace hy := sj hy
     subst hy
     refine metI (l2021_1, _, _, _) r hc1 (.k r r (.k r r .nil)) (.k r r (.k r r (.k r r .nil)))
   ·rintro ⟨l2021_2, g1_1, g2_1, g2021_1⟩ cl hy
    subst hk1
    change At _ cl (mk _ _) _
    refine reg 3 r <| ldw tk81 r r r r r r <| str tk81 r r r r r r r <| asg r r r <| dn <| at_ret <| cellF (f := (SL 1 I)) (l := l2021_2) 1 2021 1 r r r (pu_l 1 pu_I) r <| ?_
    replace hy := sj hy
    subst hy
    exact endZ [] (rs := [_, _]) r (by simp) (.inl r) (.cell _ _ _ _ _ _ _ _ _ _ _ _ _ r r r tk81 r (.tmp _ _ _ _ r .nil)) (by simp) (PuL.rn (xs := [(FoA (Fo.mk a0 l2021_2)), (I 0)]) (.cons (pu_Fo _) (.cons (pu_I _) (.nil))))
def p_r18_put_L1 (K : Nat) (a0 : (List (List Int))) : Nat → (List Int) → Int → Option ((List Int) × Int)
 | 0, _, _ => none
 | n+1, v1_1, v5_1 => (bif (decide (v5_1 < (a0.length : Int))) then (ixP a0 v5_1 fun v3 => (ixP v3 0 fun v5 => (ixP v1_1 0 fun v7 => (bif (decide (v5 < v7)) then p_r18_put_L1 K a0 n v1_1 (w64 (v5_1 + 1)) else some (v1_1, v5_1))))) else some (v1_1, v5_1))
def p_r18_put (K : Nat) (a0 : (List (List Int))) (a1 : (List Int)) : Option (List (List Int)) :=
 ((p_r13_Plain K a1).bind fun r1 => ((p_r18_put_L1 K a0 K r1 0 : Option ((List Int) × Int)).bind fun (v1_2, v5_2) => (slP a0 0 v5_2 fun v10 => (apP 24 ([] : List (List Int)).length v10.length ((apP 24 (([] : List (List Int)) ++ v10).length [v1_2].length ((slP a0 v5_2 a0.length fun v15 => (apP 24 ((([] : List (List Int)) ++ v10) ++ [v1_2]).length v15.length (some (((([] : List (List Int)) ++ v10) ++ [v1_2]) ++ v15)))))))))))
theorem w_r18_put {K : Nat} {a0 : (List (List Int))} {a1 : (List Int)} {y : (List (List Int))} (hy : p_r18_put K a0 a1 = some y) : Does PP GV 138 [] [((SL 1 (SL 1 I)) a0), ((SL 1 I) a1)] [] [] ((SL 1 (SL 1 I)) y) := by
 unfold p_r18_put at hy
 refine does_of at138 r (le_ok r) <| ?_
 rintro ⟨_, base, w0, F⟩ rfl
 refine reg 1 r <| asg r r r <| dn <| reg 3 r <| mv r r r <| ?_
 obtain ⟨r1, qr1, hy⟩ := bndI hy
 refine clp (w_r13_Plain qr1) ca101 r r (.cons ((pu_l 1 pu_I) _) (.nil)) (.one ((pu_l 1 pu_I) _)) r <| asg r r r <| dn <| reg 1 r <| asg r r r <| dn <| ?_
 obtain ⟨o1, hy, k1, hk1, hc1⟩ := bndK hy
 refine meetI (fun (p : (List Int) × Int) => match p with | (v1_2, v5_2) => mk [(0, ((SL 1 (SL 1 I)) a0)), (1, ((SL 1 I) v1_2)), (5, (I v5_2))] []) (fun p => match p with | (v1_2, v5_2) => k1 (v1_2, v5_2) = some y) ?_ ?_
 ·skip
  refine at_block <| wk (T' := [(0, ((SL 1 (SL 1 I)) a0)), (1, ((SL 1 I) r1)), (5, (I 0))]) (H' := []) (.k r r (.k r r (.k r r .nil))) .nil <| loopI (fun (p : Nat × (List Int) × Int) => match p with | (n2, v1_1, v5_1) => mk [(0, ((SL 1 (SL 1 I)) a0)), (1, ((SL 1 I) v1_1)), (5, (I v5_1))] []) (fun p => match p with | (n2, v1_1, v5_1) => p_r18_put_L1 K a0 n2 v1_1 v5_1 = some o1) (fun p => p.1) ?_ (K, r1, 0) hy _
  rintro ⟨n2, v1_1, v5_1⟩ cl hy
  cases n2 with | zero => cases hy | succ n2 => ?_
  change At _ cl (mk _ _) _
  replace hy : p_r18_put_L1 K a0 (n2+1) v1_1 v5_1 = some o1 := hy
  rw [p_r18_put_L1] at hy
  refine at_seq <| regd mixed 16 r <| mv r r r <| mv r r r <| lnf (f := (SL 1 I)) slB30 r r r <| bn r r r r r <| mv r r r <| cas 12 r (fun h3 => ?_) (fun h3 => ?_)
  ·replace hy := ifT hy h3
   refine mv r r r <| mv r r r <| ?_
   obtain ⟨i2, v3, qi2, xv3, hy⟩ := ixI hy
   refine fixP (f := (SL 1 I)) sl30 qi2 xv3 r r r r <| fld tk29 r r r r <| ?_
   obtain ⟨i4, v5, qi4, xv5, hy⟩ := ixI hy
   refine fixP (f := I) sl29 qi4 xv5 r r r r <| fld tk3 r r r r <| mv r r r <| ?_
   obtain ⟨i6, v7, qi6, xv7, hy⟩ := ixI hy
   refine fixP (f := I) sl29 qi6 xv7 r r r r <| fld tk3 r r r r <| bn r r r r r <| pkt r r r r r <| dn ⟨by kernel_rfl, ?_⟩
   refine cd r (fun h4 => ?_) (fun h4 => ?_)
   ·replace hy := ifT hy h4
    refine at_skip <| at_block <| reg1 3 r <| mv r r r <| bn r r r r r <| asg r r r <| dn <| at_bn <| againI (n2, v1_1, (w64 (v5_1 + 1))) r hy (Nat.lt_succ_self _) (.k r r (.k r r (.k r r .nil))) .nil
   ·replace hy := ifF hy h4
    refine at_exit <| at_te <| at_te <| at_inBlock <| ?_
    replace hy := sj hy
    subst hy
    refine metI (v1_1, v5_1) r hc1 (.k r r (.k r r (.k r r .nil))) .nil
  ·replace hy := ifF hy h3
   refine sk r r <| sk r r <| sk r r <| sk r r <| sk r r <| sk r r <| sk r r <| sk r r <| sk r r <| sk r r <| pkf r r r r r <| dn ⟨by kernel_rfl, ?_⟩
   refine cdf r <| at_exit <| at_te <| at_te <| at_inBlock <| ?_
   replace hy := sj hy
   subst hy
   refine metI (v1_1, v5_1) r hc1 (.k r r (.k r r (.k r r .nil))) .nil
 ·rintro ⟨v1_2, v5_2⟩ cl hy
  subst hk1
  change At _ cl (mk _ _) _
  refine regd mixed 13 r <| bldsP (SL 1 I) ([] : List (List Int)) 1 se30 r r r r r r r <| mv r r r <| mv r r r <| ?_
  obtain ⟨i8, i9, qi8, qi9, bi8, ci8, hy⟩ := slI hy
  refine fslhP (f := (SL 1 I)) sl30 qi8 qi9 ci8 r r r r <| ?_
  generalize ((List.take i9 a0).drop i8) = v10 at hy ⊢
  obtain ⟨k11a, k11b, hy⟩ := apI hy
  refine aplP (f := (SL 1 I)) (l := ([] : List (List Int))) (zs := v10) se30 k11a k11b r r r r r <| mv r r r <| bldsP (SL 1 I) ([v1_2] : List (List Int)) 2 se30 r r r r r r r <| ?_
  obtain ⟨k12a, k12b, hy⟩ := apI hy
  refine apoP (f := (SL 1 I)) (l := (([] : List (List Int)) ++ v10)) (zs := [v1_2]) se30 k12a k12b r r r r r r <| mv r r r <| mv r r r <| ?_
  obtain ⟨i13, i14, qi13, qi14, bi13, ci13, hy⟩ := slI hy
  refine fsllP (f := (SL 1 I)) sl30 qi13 qi14 bi13 r r r r <| ?_
  generalize ((List.take i14 a0).drop i13) = v15 at hy ⊢
  obtain ⟨k16a, k16b, hy⟩ := apI hy
  refine aplP (f := (SL 1 I)) (l := ((([] : List (List Int)) ++ v10) ++ [v1_2])) (zs := v15) se30 k16a k16b r r r r r <| asg r r r <| dn ⟨by kernel_rfl, ?_⟩
  refine at_ret <| frzP (f := (SL 1 I)) (l := (((([] : List (List Int)) ++ v10) ++ [v1_2]) ++ v15)) 4 1 r r (pu_l 1 pu_I) <| ?_
  replace hy := sj hy
  subst hy
  exact out1 r (.inl r) (look_of r) r ((pu_l 1 (pu_l 1 pu_I)) _)
def p_r18_without (K : Nat) (a0 : (List (List Int))) (a1 : Int) : Option (List (List Int)) :=
 (slP a0 0 a1 fun v3 => (apP 24 ([] : List (List Int)).length v3.length ((slP a0 (w64 (a1 + 1)) a0.length fun v7 => (apP 24 (([] : List (List Int)) ++ v3).length v7.length (some ((([] : List (List Int)) ++ v3) ++ v7)))))))
theorem w_r18_without {K : Nat} {a0 : (List (List Int))} {a1 : Int} {y : (List (List Int))} (hy : p_r18_without K a0 a1 = some y) : Does PP GV 137 [] [((SL 1 (SL 1 I)) a0), (I a1)] [] [] ((SL 1 (SL 1 I)) y) := by
 unfold p_r18_without at hy
 refine does_of at137 r (le_ok r) <| ?_
 rintro ⟨_, base, w0, F⟩ rfl
 refine reg 1 r <| asg r r r <| dn <| regd mixed 11 r <| bldsP (SL 1 I) ([] : List (List Int)) 1 se30 r r r r r r r <| mv r r r <| mv r r r <| ?_
 obtain ⟨i1, i2, qi1, qi2, bi1, ci1, hy⟩ := slI hy
 refine fslhP (f := (SL 1 I)) sl30 qi1 qi2 ci1 r r r r <| ?_
 generalize ((List.take i2 a0).drop i1) = v3 at hy ⊢
 obtain ⟨k4a, k4b, hy⟩ := apI hy
 refine aplP (f := (SL 1 I)) (l := ([] : List (List Int))) (zs := v3) se30 k4a k4b r r r r r <| mv r r r <| mv r r r <| bn r r r r r <| ?_
 obtain ⟨i5, i6, qi5, qi6, bi5, ci5, hy⟩ := slI hy
 refine fsllP (f := (SL 1 I)) sl30 qi5 qi6 bi5 r r r r <| ?_
 generalize ((List.take i6 a0).drop i5) = v7 at hy ⊢
 obtain ⟨k8a, k8b, hy⟩ := apI hy
 refine aplP (f := (SL 1 I)) (l := (([] : List (List Int)) ++ v3)) (zs := v7) se30 k8a k8b r r r r r <| asg r r r <| dn ⟨by kernel_rfl, ?_⟩
 refine at_ret <| frzP (f := (SL 1 I)) (l := ((([] : List (List Int)) ++ v3) ++ v7)) 4 1 r r (pu_l 1 pu_I) <| ?_
 replace hy := sj hy
 subst hy
 exact out1 r (.inl r) (look_of r) r ((pu_l 1 (pu_l 1 pu_I)) _)
def p_r18_Link (K : Nat) (a0 : Fo) (a1 : Int) (a2 : Int) : Option (Fo × Int) :=
 ((p_r18_Right K a0).bind fun r1 => (bif (!r1) then some (a0, 1) else ((p_r18_in K a0.n a1).bind fun r2 => (bif (!r2) then some (a0, 10) else ((p_r18_in K a0.n a2).bind fun r3 => (bif (!r3) then some (a0, 10) else ((p_r18_place K a0 a1).bind fun r4 => ((p_r18_place K a0 a2).bind fun r5 => (bif (r4 == r5) then some (a0, 5) else ((p_r18_place K a0 a1).bind fun r6 => ((p_r18_place K a0 a2).bind fun r7 => (ixP a0.rings r6 fun v9 => ((p_r13_From K v9 a1).bind fun r10 => (ixP a0.rings r7 fun v12 => ((p_r13_From K v12 a2).bind fun r13 => ((p_r18_Arc K a0.n a1 a2).bind fun r14 => (apP 8 [a1, r14].length r13.1.length (((p_r18_Arc K a0.n a2 a1).bind fun r16 => (apP 8 ([a1, r14] ++ r13.1).length [r16].length ((slP r10.1 1 r10.1.length fun v20 => (apP 8 (([a1, r14] ++ r13.1) ++ [r16]).length v20.length (((p_r18_without K a0.rings (if r6 < r7 then r7 else r6)).bind fun r22 => ((p_r18_without K r22 (if r7 < r6 then r7 else r6)).bind fun r23 => ((p_r18_put K r23 ((([a1, r14] ++ r13.1) ++ [r16]) ++ v20)).bind fun r24 => some ((Fo.mk (Fo.mk a0.n r24).n (Fo.mk a0.n r24).rings), 0))))))))))))))))))))))))))))
theorem w_r18_Link {K : Nat} {a0 : Fo} {a1 : Int} {a2 : Int} {y : (Fo × Int)} (hy : p_r18_Link K a0 a1 a2 = some y) : Does PP GV 120 [] [(FoA a0), (I a1), (I a2)] [] [] (.tup [(FoA y.1), (I y.2)]) := by
 unfold p_r18_Link at hy
 refine does_of at120 r (le_ok r) <| ?_
 rintro ⟨_, base, w0, F⟩ rfl
 refine reg 3 r <| bx 1 r r r r <| rg_alloc (s := 2) (gd_of r) zc81 (elems_one (by rfl)) (lt_ok r) <| asg r r r <| dn <| at_seq <| at_block <| reg 4 r <| ldw tk81 r r r r r r <| ?_
 obtain ⟨r1, qr1, hy⟩ := bndI hy
 refine clp (w_r18_Right qr1) ca76 r r (.cons (pu_Fo _) (.nil)) (.one (pu_B _)) r <| nt r r r <| asg r r r <| dn <| cd r (fun h1 => ?_) (fun h1 => ?_)
 ·replace hy := ifT hy h1
  refine reg 3 r <| ldw tk81 r r r r r r <| str tk81 r r r r r r r <| asg r r r <| dn <| at_ret <| ?_
  replace hy := sj hy
  subst hy
  exact endZ [] (rs := [_, _]) r (by simp) (.inl r) (.cell _ _ _ _ _ _ _ _ _ _ _ _ _ r r r tk81 r (.tmp _ _ _ _ r .nil)) (by simp) (PuL.rn (xs := [(FoA a0), (I 1)]) (.cons (pu_Fo _) (.cons (pu_I _) (.nil))))
 ·replace hy := ifF hy h1
  refine reg 13 r <| fa fo81_0 r r r <| ld tk3 r r r r r r <| mv r r r <| ?_
  obtain ⟨r2, qr2, hy⟩ := bndI hy
  refine clp (w_r18_in qr2) ca77 r r (.cons (pu_I _) (.cons (pu_I _) (.nil))) (.one (pu_B _)) r <| nt r r r <| mv r r r <| cas 27 r (fun h2 => ?_) (fun h2 => ?_)
  ·replace hy := ifT hy h2
   refine sk r r <| sk r r <| sk r r <| sk r r <| sk r r <| pkt r r r r r <| asg r r r <| dn <| cdt r <| reg 3 r <| ldw tk81 r r r r r r <| str tk81 r r r r r r r <| asg r r r <| dn <| at_ret <| ?_
   replace hy := sj hy
   subst hy
   exact endZ [] (rs := [_, _]) r (by simp) (.inl r) (.cell _ _ _ _ _ _ _ _ _ _ _ _ _ r r r tk81 r (.tmp _ _ _ _ r .nil)) (by simp) (PuL.rn (xs := [(FoA a0), (I 10)]) (.cons (pu_Fo _) (.cons (pu_I _) (.nil))))
  ·replace hy := ifF hy h2
   refine fa fo81_0 r r r <| ld tk3 r r r r r r <| mv r r r <| ?_
   obtain ⟨r3, qr3, hy⟩ := bndI hy
   refine clp (w_r18_in qr3) ca77 r r (.cons (pu_I _) (.cons (pu_I _) (.nil))) (.one (pu_B _)) r <| nt r r r <| pkf r r r r r <| asg r r r <| dn <| cd r (fun h3 => ?_) (fun h3 => ?_)
   ·replace hy := ifT hy h3
    refine reg 3 r <| ldw tk81 r r r r r r <| str tk81 r r r r r r r <| asg r r r <| dn <| at_ret <| ?_
    replace hy := sj hy
    subst hy
    exact endZ [] (rs := [_, _]) r (by simp) (.inl r) (.cell _ _ _ _ _ _ _ _ _ _ _ _ _ r r r tk81 r (.tmp _ _ _ _ r .nil)) (by simp) (PuL.rn (xs := [(FoA a0), (I 10)]) (.cons (pu_Fo _) (.cons (pu_I _) (.nil))))
   ·replace hy := ifF hy h3
    refine regd mixed 8 r <| ldw tk81 r r r r r r <| mv r r r <| ?_
    obtain ⟨r4, qr4, hy⟩ := bndI hy
    refine clp (w_r18_place qr4) ca78 r r (.cons (pu_Fo _) (.cons (pu_I _) (.nil))) (.one (pu_I _)) r <| ldw tk81 r r r r r r <| mv r r r <| ?_
    obtain ⟨r5, qr5, hy⟩ := bndI hy
    refine clp (w_r18_place qr5) ca78 r r (.cons (pu_Fo _) (.cons (pu_I _) (.nil))) (.one (pu_I _)) r <| bn r r r r r <| asg r r r <| dn ⟨by kernel_rfl, ?_⟩
    refine cd r (fun h4 => ?_) (fun h4 => ?_)
    ·replace hy := ifT hy h4
     refine reg 3 r <| ldw tk81 r r r r r r <| str tk81 r r r r r r r <| asg r r r <| dn <| at_ret <| ?_
     replace hy := sj hy
     subst hy
     exact endZ [] (rs := [_, _]) r (by simp) (.inl r) (.cell _ _ _ _ _ _ _ _ _ _ _ _ _ r r r tk81 r (.tmp _ _ _ _ r .nil)) (by simp) (PuL.rn (xs := [(FoA a0), (I 5)]) (.cons (pu_Fo _) (.cons (pu_I _) (.nil))))
    ·replace hy := ifF hy h4
     refine at_skip <| at_bn <| regd mixed 8 r <| ldw tk81 r r r r r r <| mv r r r <| ?_
     obtain ⟨r6, qr6, hy⟩ := bndI hy
     refine clp (w_r18_place qr6) ca78 r r (.cons (pu_Fo _) (.cons (pu_I _) (.nil))) (.one (pu_I _)) r <| ldw tk81 r r r r r r <| mv r r r <| ?_
     obtain ⟨r7, qr7, hy⟩ := bndI hy
     refine clp (w_r18_place qr7) ca78 r r (.cons (pu_Fo _) (.cons (pu_I _) (.nil))) (.one (pu_I _)) r <| asg r r r <| asg r r r <| dn ⟨by kernel_rfl, ?_⟩
     refine reg 12 r <| fa fo81_1 r r r <| ld tk30 r r r r r r <| mv r r r <| ?_
     obtain ⟨i8, v9, qi8, xv9, hy⟩ := ixI hy
     refine fixP (f := (SL 1 I)) sl30 qi8 xv9 r r r r <| fld tk29 r r r r <| mv r r r <| ?_
     obtain ⟨r10, qr10, hy⟩ := bndI hy
     refine clp (w_r13_From qr10) ca124 r r (.cons ((pu_l 1 pu_I) _) (.cons (pu_I _) (.nil))) (.tup (.cons ((pu_l 1 pu_I) _) (.cons (pu_B _) (.nil)))) r <| mv r r r <| ext r r r r <| ext r r r r <| asg r r r <| asg r r r <| dn <| reg 12 r <| fa fo81_1 r r r <| ld tk30 r r r r r r <| mv r r r <| ?_
     obtain ⟨i11, v12, qi11, xv12, hy⟩ := ixI hy
     refine fixP (f := (SL 1 I)) sl30 qi11 xv12 r r r r <| fld tk29 r r r r <| mv r r r <| ?_
     obtain ⟨r13, qr13, hy⟩ := bndI hy
     refine clp (w_r13_From qr13) ca124 r r (.cons ((pu_l 1 pu_I) _) (.cons (pu_I _) (.nil))) (.tup (.cons ((pu_l 1 pu_I) _) (.cons (pu_B _) (.nil)))) r <| mv r r r <| ext r r r r <| ext r r r r <| asg r r r <| asg r r r <| dn <| reg 10 r <| mv r r r <| fa fo81_0 r r r <| ld tk3 r r r r r r <| mv r r r <| mv r r r <| ?_
     obtain ⟨r14, qr14, hy⟩ := bndI hy
     refine clp (w_r18_Arc qr14) ca122 r r (.cons (pu_I _) (.cons (pu_I _) (.cons (pu_I _) (.nil)))) (.one (pu_I _)) r <| bldsP I ([a1, r14] : List Int) 3 se29 r r r r r r r <| mv r r r <| ?_
     obtain ⟨k15a, k15b, hy⟩ := apI hy
     refine aplP (f := I) (l := [a1, r14]) (zs := r13.1) se29 k15a k15b r r r r r <| asg r r r <| dn <| regd mixed 12 r <| mv r r r <| fa fo81_0 r r r <| ld tk3 r r r r r r <| mv r r r <| mv r r r <| ?_
     obtain ⟨r16, qr16, hy⟩ := bndI hy
     refine clp (w_r18_Arc qr16) ca122 r r (.cons (pu_I _) (.cons (pu_I _) (.cons (pu_I _) (.nil)))) (.one (pu_I _)) r <| bldsP I ([r16] : List Int) 4 se29 r r r r r r r <| ?_
     obtain ⟨k17a, k17b, hy⟩ := apI hy
     refine apoP (f := I) (l := ([a1, r14] ++ r13.1)) (zs := [r16]) se29 k17a k17b r r r r r r <| mv r r r <| ?_
     obtain ⟨i18, i19, qi18, qi19, bi18, ci18, hy⟩ := slI hy
     refine fsllP (f := I) sl29 qi18 qi19 bi18 r r r r <| ?_
     generalize ((List.take i19 r10.1).drop i18) = v20 at hy ⊢
     obtain ⟨k21a, k21b, hy⟩ := apI hy
     refine aplP (f := I) (l := (([a1, r14] ++ r13.1) ++ [r16])) (zs := v20) se29 k21a k21b r r r r r <| asg r r r <| dn ⟨by kernel_rfl, ?_⟩
     refine reg 7 r <| fa fo81_1 r r r <| ld tk30 r r r r r r <| mv r r r <| mv r r r <| rg_max (gd_of r) (ev_of r) (ev_of r) (lt_ok r) <| ?_
     obtain ⟨r22, qr22, hy⟩ := bndI hy
     refine clp (w_r18_without qr22) ca137 r r (.cons ((pu_l 1 (pu_l 1 pu_I)) _) (.cons (pu_I _) (.nil))) (.one ((pu_l 1 (pu_l 1 pu_I)) _)) r <| asg r r r <| dn <| frzP (f := I) (l := ((([a1, r14] ++ r13.1) ++ [r16]) ++ v20)) 14 3 r r pu_I <| regd mixed 12 r <| fa fo81_0 r r r <| ld tk3 r r r r r r <| mv r r r <| mv r r r <| mv r r r <| rg_min (gd_of r) (ev_of r) (ev_of r) (lt_ok r) <| ?_
     obtain ⟨r23, qr23, hy⟩ := bndI hy
     refine clp (w_r18_without qr23) ca137 r r (.cons ((pu_l 1 (pu_l 1 pu_I)) _) (.cons (pu_I _) (.nil))) (.one ((pu_l 1 (pu_l 1 pu_I)) _)) r <| mv r r r <| ?_
     obtain ⟨r24, qr24, hy⟩ := bndI hy
     refine clp (w_r18_put qr24) ca138 r r (.cons ((pu_l 1 (pu_l 1 pu_I)) _) (.cons ((pu_l 1 pu_I) _) (.nil))) (.one ((pu_l 1 (pu_l 1 pu_I)) _)) r <| bld bd81 r r r r <| str tk81 r r r r r r r <| asg r r r <| dn ⟨by kernel_rfl, ?_⟩
     refine at_ret <| ?_
     replace hy := sj hy
     subst hy
     exact endZ [] (rs := [_, _]) r (by simp) (.inl r) (.cell _ _ _ _ _ _ _ _ _ _ _ _ _ r r r tk81 r (.tmp _ _ _ _ r .nil)) (by simp) (PuL.rn (xs := [(FoA (Fo.mk (Fo.mk a0.n r24).n (Fo.mk a0.n r24).rings)), (I 0)]) (.cons (pu_Fo _) (.cons (pu_I _) (.nil))))
def p_r19_there_L1 (K : Nat) (a1 : (List Ed)) (a0 : Fo) : Nat → Int → Option (Sum Unit Int)
 | 0, _ => none
 | n+1, v5_1 => (bif (decide (v5_1 < (a1.length : Int))) then (ixP a1 v5_1 fun v3 => (bif (decide (v3.u < 0)) then some (.inr 10) else (ixP a1 v5_1 fun v5 => (bif (decide (v5.u ≥ a0.n)) then some (.inr 10) else (ixP a1 v5_1 fun v7 => (bif (decide (v7.v < 0)) then some (.inr 10) else (ixP a1 v5_1 fun v9 => (bif (decide (v9.v ≥ a0.n)) then some (.inr 10) else p_r19_there_L1 K a1 a0 n (w64 (v5_1 + 1)))))))))) else some (.inl ()))
def p_r19_there (K : Nat) (a0 : Fo) (a1 : (List Ed)) : Option Int :=
 ((p_r18_Right K a0).bind fun r1 => (bif (!r1) then some 1 else ((p_r19_there_L1 K a1 a0 K 0 : Option (Sum Unit Int)).bind fun | .inl _ => some 0 | .inr r => some r)))
theorem w_r19_there {K : Nat} {a0 : Fo} {a1 : (List Ed)} {y : Int} (hy : p_r19_there K a0 a1 = some y) : Does PP GV 119 [] [(FoA a0), ((SL 2 EdA) a1)] [] [] (I y) := by
 unfold p_r19_there at hy
 refine does_of at119 r (le_ok r) <| ?_
 rintro ⟨_, base, w0, F⟩ rfl
 refine reg 2 r <| bx 1 r r r r <| asg r r r <| dn <| at_seq <| reg 3 r <| ldw tk81 r r r r r r <| ?_
 obtain ⟨r1, qr1, hy⟩ := bndI hy
 refine clp (w_r18_Right qr1) ca76 r r (.cons (pu_Fo _) (.nil)) (.one (pu_B _)) r <| nt r r r <| dn <| cd r (fun h1 => ?_) (fun h1 => ?_)
 ·replace hy := ifT hy h1
  refine reg 1 r <| asg r r r <| dn <| at_ret <| ?_
  replace hy := sj hy
  subst hy
  exact out1 r (.inl r) (look_of r) r (pu_I _)
 ·replace hy := ifF hy h1
  refine at_skip <| ?_
  obtain ⟨o1, hy, k1, hk1, hc1⟩ := bndK hy
  refine meetI (fun (p : Unit) => match p with | _ => mk [] []) (fun p => match p with | _ => k1 (.inl ()) = some y) ?_ ?_
  ·skip
   refine reg 1 r <| asg r r r <| dn <| at_block <| wk (T' := [(1, ((SL 2 EdA) a1)), (2, .ptr 1 _ 0 0), (5, (I 0))]) (H' := [(1, some (_, .buf 2 [.agg [(I a0.n), ((SL 1 (SL 1 I)) a0.rings)]]))]) (.k r r (.k r r (.k r r .nil))) (.k r r .nil) <| loopI (fun (p : Nat × Int × Nat) => match p with | (n2, v5_1, g1_2) => mk [(1, ((SL 2 EdA) a1)), (2, .ptr 1 g1_2 0 0), (5, (I v5_1))] [(1, some (g1_2, .buf 2 [.agg [(I a0.n), ((SL 1 (SL 1 I)) a0.rings)]]))]) (fun p => match p with | (n2, v5_1, g1_2) => p_r19_there_L1 K a1 a0 n2 v5_1 = some o1) (fun p => p.1) ?_ (K, 0, _) hy _
   rintro ⟨n2, v5_1, g1_2⟩ cl hy
   cases n2 with | zero => cases hy | succ n2 => ?_
   change At _ cl (mk _ _) _
   replace hy : p_r19_there_L1 K a1 a0 (n2+1) v5_1 = some o1 := hy
   rw [p_r19_there_L1] at hy
   refine at_seq <| reg 4 r <| mv r r r <| mv r r r <| lnf (f := EdA) slB41 r r r <| bn r r r r r <| dn <| cd r (fun h4 => ?_) (fun h4 => ?_)
   ·replace hy := ifT hy h4
    refine at_skip <| at_seq <| at_block <| regd mixed 34 r <| mv r r r <| mv r r r <| ?_
    obtain ⟨i2, v3, qi2, xv3, hy⟩ := ixI hy
    refine fixP (f := EdA) sl41 qi2 xv3 r r r r <| ffa fo47_0 r r r <| fld tk3 r r r r <| bn r r r r r <| mv r r r <| cas 21 r (fun h5 => ?_) (fun h5 => ?_)
    ·replace hy := ifT hy h5
     refine sk r r <| sk r r <| sk r r <| sk r r <| sk r r <| sk r r <| sk r r <| sk r r <| pkt r r r r r <| mv r r r <| sk r r <| sk r r <| sk r r <| sk r r <| sk r r <| sk r r <| pkt r r r r r <| mv r r r <| sk r r <| sk r r <| sk r r <| sk r r <| sk r r <| sk r r <| sk r r <| sk r r <| pkt r r r r r <| dn ⟨by kernel_rfl, ?_⟩
     refine cdt r <| reg 1 r <| asg r r r <| dn <| at_ret <| ?_
     replace hy := sj hy
     subst hy
     subst hk1
     replace hc1 := Option.some.inj hc1
     subst hc1
     exact out1 r (.inl r) (look_of r) r (pu_I _)
    ·replace hy := ifF hy h5
     refine mv r r r <| mv r r r <| ?_
     obtain ⟨i4, v5, qi4, xv5, hy⟩ := ixI hy
     refine fixP (f := EdA) sl41 qi4 xv5 r r r r <| ffa fo47_0 r r r <| fld tk3 r r r r <| fa fo81_0 r r r <| ld tk3 r r r r r r <| bn r r r r r <| pkf r r r r r <| mv r r r <| cas 31 r (fun h6 => ?_) (fun h6 => ?_)
     ·replace hy := ifT hy h6
      refine sk r r <| sk r r <| sk r r <| sk r r <| sk r r <| sk r r <| pkt r r r r r <| mv r r r <| sk r r <| sk r r <| sk r r <| sk r r <| sk r r <| sk r r <| sk r r <| sk r r <| pkt r r r r r <| dn ⟨by kernel_rfl, ?_⟩
      refine cdt r <| reg 1 r <| asg r r r <| dn <| at_ret <| ?_
      replace hy := sj hy
      subst hy
      subst hk1
      replace hc1 := Option.some.inj hc1
      subst hc1
      exact out1 r (.inl r) (look_of r) r (pu_I _)
     ·replace hy := ifF hy h6
      refine mv r r r <| mv r r r <| ?_
      obtain ⟨i6, v7, qi6, xv7, hy⟩ := ixI hy
      refine fixP (f := EdA) sl41 qi6 xv7 r r r r <| ffa fo47_1 r r r <| fld tk3 r r r r <| bn r r r r r <| pkf r r r r r <| mv r r r <| cas 39 r (fun h7 => ?_) (fun h7 => ?_)
      ·replace hy := ifT hy h7
       refine sk r r <| sk r r <| sk r r <| sk r r <| sk r r <| sk r r <| sk r r <| sk r r <| pkt r r r r r <| dn ⟨by kernel_rfl, ?_⟩
       refine cdt r <| reg 1 r <| asg r r r <| dn <| at_ret <| ?_
       replace hy := sj hy
       subst hy
       subst hk1
       replace hc1 := Option.some.inj hc1
       subst hc1
       exact out1 r (.inl r) (look_of r) r (pu_I _)
      ·replace hy := ifF hy h7
       refine mv r r r <| mv r r r <| ?_
       obtain ⟨i8, v9, qi8, xv9, hy⟩ := ixI hy
       refine fixP (f := EdA) sl41 qi8 xv9 r r r r <| ffa fo47_1 r r r <| fld tk3 r r r r <| fa fo81_0 r r r <| ld tk3 r r r r r r <| bn r r r r r <| pkf r r r r r <| dn ⟨by kernel_rfl, ?_⟩
       refine cd r (fun h8 => ?_) (fun h8 => ?_)
       ·replace hy := ifT hy h8
        refine reg 1 r <| asg r r r <| dn <| at_ret <| ?_
        replace hy := sj hy
        subst hy
        subst hk1
        replace hc1 := Option.some.inj hc1
        subst hc1
        exact out1 r (.inl r) (look_of r) r (pu_I _)
       ·replace hy := ifF hy h8
        refine at_skip <| at_bn <| reg1 3 r <| mv r r r <| bn r r r r r <| asg r r r <| dn <| againI (n2, (w64 (v5_1 + 1)), _) r hy (Nat.lt_succ_self _) (.k r r (.k r r (.k r r .nil))) (.k r r .nil)
   ·replace hy := ifF hy h4
    refine at_exit <| at_te <| at_te <| at_inBlock <| ?_
    replace hy := sj hy
    subst hy
    refine metI () r hc1 .nil .nil
  ·rintro ⟨⟩ cl hy
   subst hk1
   change At _ cl (mk _ _) _
   refine reg 1 r <| asg r r r <| dn <| at_ret <| ?_
   replace hy := sj hy
   subst hy
   exact out1 r (.inl r) (look_of r) r (pu_I _)
def p_r19_Links_L1 (K : Nat) (a1 : (List Ed)) : Nat → Int → Int → (List (List Int)) → (List Bool) → Option (Int × (List (List Int)) × (List Bool))
 | 0, _, _, _, _ => none
 | n+1, v9_1, v1_1, v1_1_1, l1008_1 => (bif (decide (v9_1 < (a1.length : Int))) then (ixP a1 v9_1 fun v3 => (ixP a1 v9_1 fun v5 => ((p_r18_Link K (Fo.mk v1_1 v1_1_1) v3.u v5.v).bind fun r6 => (apP 1 l1008_1.length [(r6.2 == 0)].length (p_r19_Links_L1 K a1 n (w64 (v9_1 + 1)) r6.1.n r6.1.rings (l1008_1 ++ [(r6.2 == 0)])))))) else some (v1_1, v1_1_1, l1008_1))
def p_r19_Links (K : Nat) (a0 : Fo) (a1 : (List Ed)) : Option (Fo × (List Bool) × Int) :=
 ((p_r19_there K a0 a1).bind fun r1 => (bif (r1 != 0) then some (a0, [], r1) else ((p_r19_Links_L1 K a1 K 0 a0.n a0.rings [] : Option (Int × (List (List Int)) × (List Bool))).bind fun (v1_2, v1_2_1, l1008_2) => some ((Fo.mk (Fo.mk v1_2 v1_2_1).n (Fo.mk v1_2 v1_2_1).rings), l1008_2, 0))))
theorem w_r19_Links {K : Nat} {a0 : Fo} {a1 : (List Ed)} {y : (Fo × (List Bool) × Int)} (hy : p_r19_Links K a0 a1 = some y) : Does PP GV 99 [] [(FoA a0), ((SL 2 EdA) a1)] [] [] (.tup [(FoA y.1), ((SL 1 B) y.2.1), (I y.2.2)]) := by
 unfold p_r19_Links at hy
 refine does_of at99 r (le_ok r) <| ?_
 rintro ⟨_, base, w0, F⟩ rfl
 refine reg 4 r <| bx 1 r r r r <| rg_alloc (s := 2) (gd_of r) zc81 (elems_one (by rfl)) (lt_ok r) <| asg r r r <| asg r r r <| dn <| reg 4 r <| ldw tk81 r r r r r r <| mv r r r <| ?_
 obtain ⟨r1, qr1, hy⟩ := bndI hy
 refine clp (w_r19_there qr1) ca119 r r (.cons (pu_Fo _) (.cons ((pu_l 2 pu_Ed) _) (.nil))) (.one (pu_I _)) r <| asg r r r <| dn <| at_seq <| reg 2 r <| mv r r r <| bn r r r r r <| dn <| cd r (fun h1 => ?_) (fun h1 => ?_)
 ·replace hy := ifT hy h1
  refine reg 5 r <| ldw tk81 r r r r r r <| mv r r r <| str tk81 r r r r r r r <| asg r r r <| asg r r r <| dn <| at_ret <| atnilP (B) 5 1 r <| ?_
  replace hy := sj hy
  subst hy
  exact endZ [] (rs := [_, _, _]) r (by simp) (.inl r) (.cell _ _ _ _ _ _ _ _ _ _ _ _ _ r r r tk81 r (.tmp _ _ _ _ r (.tmp _ _ _ _ r .nil))) (by simp) (PuL.rn (xs := [(FoA a0), ((SL 1 B) []), (I r1)]) (.cons (pu_Fo _) (.cons ((pu_l 1 pu_B) _) (.cons (pu_I _) (.nil)))))
 ·replace hy := ifF hy h1
  refine at_skip <| reg 1 r <| asg r r r <| dn <| ?_
  obtain ⟨o1, hy, k1, hk1, hc1⟩ := bndK hy
  refine meetI (fun (p : Int × (List (List Int)) × (List Bool) × Nat × Nat × Nat) => match p with | (v1_2, v1_2_1, l1008_2, g1_1, g2_1, g1008_1) => mk [(2, .ptr 1 g1_1 0 0), (4, .ptr 2 g2_1 0 0), (8, .own 1008 g1008_1 1 0 (l1008_2).length false)] [(1, some (g1_1, .buf 2 [.agg [(I v1_2), ((SL 1 (SL 1 I)) v1_2_1)]])), (2, some (g2_1, .buf 2 [.agg [(I 0), .v (.slice none 0 0)]])), (1008, some (g1008_1, .buf 1 (l1008_2.map B)))]) (fun p => match p with | (v1_2, v1_2_1, l1008_2, g1_1, g2_1, g1008_1) => k1 (v1_2, v1_2_1, l1008_2) = some y) ?_ ?_
  ·skip
   refine reg 1 r <| asg r r r <| dn <| at_block <| niloP (B) 8 1008 1 r <| wk (T' := [(1, ((SL 2 EdA) a1)), (2, .ptr 1 _ 0 0), (4, .ptr 2 _ 0 0), (8, .own 1008 _ 1 0 ([]).length false), (9, (I 0))]) (H' := [(1, some (_, .buf 2 [.agg [(I a0.n), ((SL 1 (SL 1 I)) a0.rings)]])), (2, some (_, .buf 2 [.agg [(I 0), .v (.slice none 0 0)]])), (1008, some (_, .buf 1 ([].map B)))]) (.k r r (.k r r (.k r r (.k r r (.k r r .nil))))) (.k r r (.k r r (.k r r .nil))) <| loopI (fun (p : Nat × Int × Int × (List (List Int)) × (List Bool) × Nat × Nat × Nat) => match p with | (n2, v9_1, v1_1, v1_1_1, l1008_1, g1_2, g2_2, g1008_2) => mk [(1, ((SL 2 EdA) a1)), (2, .ptr 1 g1_2 0 0), (4, .ptr 2 g2_2 0 0), (8, .own 1008 g1008_2 1 0 (l1008_1).length false), (9, (I v9_1))] [(1, some (g1_2, .buf 2 [.agg [(I v1_1), ((SL 1 (SL 1 I)) v1_1_1)]])), (2, some (g2_2, .buf 2 [.agg [(I 0), .v (.slice none 0 0)]])), (1008, some (g1008_2, .buf 1 (l1008_1.map B)))]) (fun p => match p with | (n2, v9_1, v1_1, v1_1_1, l1008_1, g1_2, g2_2, g1008_2) => p_r19_Links_L1 K a1 n2 v9_1 v1_1 v1_1_1 l1008_1 = some o1) (fun p => p.1) ?_ (K, 0, a0.n, a0.rings, [], _, _, _) hy _
   rintro ⟨n2, v9_1, v1_1, v1_1_1, l1008_1, g1_2, g2_2, g1008_2⟩ cl hy
   cases n2 with | zero => cases hy | succ n2 => ?_
   change At _ cl (mk _ _) _
   replace hy : p_r19_Links_L1 K a1 (n2+1) v9_1 v1_1 v1_1_1 l1008_1 = some o1 := hy
   rw [p_r19_Links_L1] at hy
   refine at_seq <| reg 4 r <| mv r r r <| mv r r r <| lnf (f := EdA) slB41 r r r <| bn r r r r r <| dn <| cd r (fun h4 => ?_) (fun h4 => ?_)
   ·replace hy := ifT hy h4
    refine at_skip <| at_seq <| at_block <| regd mixed 18 r <| ldw tk81 r r r r r r <| mv r r r <| mv r r r <| ?_
    obtain ⟨i2, v3, qi2, xv3, hy⟩ := ixI hy
    refine fixP (f := EdA) sl41 qi2 xv3 r r r r <| ffa fo47_0 r r r <| fld tk3 r r r r <| mv r r r <| mv r r r <| ?_
    obtain ⟨i4, v5, qi4, xv5, hy⟩ := ixI hy
    refine fixP (f := EdA) sl41 qi4 xv5 r r r r <| ffa fo47_1 r r r <| fld tk3 r r r r <| ?_
    obtain ⟨r6, qr6, hy⟩ := bndI hy
    refine clp (w_r18_Link qr6) ca120 r r (.cons (pu_Fo _) (.cons (pu_I _) (.cons (pu_I _) (.nil)))) (.tup (.cons (pu_Fo _) (.cons (pu_I _) (.nil)))) r <| mv r r r <| ext r r r r <| ext r r r r <| rg_alloc (s := 3) (gd_of r) zc81 (elems_one (by rfl)) (lt_ok r) <| str tk81 r r r r r r r <| asg r r r <| dn ⟨by kernel_rfl, ?_⟩
    refine reg 2 r <| ldw tk81 r r r r r r <| str tk81 r r r r r r r <| dn <| reg1 6 r <| mv r r r <| mv r r r <| bn r r r r r <| bldsP B ([(r6.2 == 0)] : List Bool) 4 se66 r r r r r r r <| ?_
    obtain ⟨k7a, k7b, hy⟩ := apI hy
    refine apoP (f := B) (l := l1008_1) (zs := [(r6.2 == 0)]) se66 k7a k7b r r r r r r <| asg r r r <| dn <| at_bn <| reg1 3 r <| mv r r r <| bn r r r r r <| asg r r r <| dn <| againI (n2, (w64 (v9_1 + 1)), r6.1.n, r6.1.rings, (l1008_1 ++ [(r6.2 == 0)]), _, _, _) r hy (Nat.lt_succ_self _) (.k r r (.k r r (.k r r (.k r r (.k r r .nil))))) (.k r r (.k r r (.k r r .nil)))
   ·replace hy := ifF hy h4
    refine at_exit <| at_te <| at_te <| at_inBlock <| ?_
    replace hy := sj hy
    subst hy
    refine metI (v1_1, v1_1_1, l1008_1, _, _, _) r hc1 (.k r r (.k r r (.k r r .nil))) (.k r r (.k r r (.k r r .nil)))
  ·rintro ⟨v1_2, v1_2_1, l1008_2, g1_1, g2_1, g1008_1⟩ cl hy
   subst hk1
   change At _ cl (mk _ _) _
   refine reg 5 r <| ldw tk81 r r r r r r <| mv r r r <| str tk81 r r r r r r r <| asg r r r <| asg r r r <| dn <| at_ret <| frzP (f := B) (l := l1008_2) 5 1008 r r pu_B <| ?_
   replace hy := sj hy
   subst hy
   exact endZ [] (rs := [_, _, _]) r (by simp) (.inl r) (.cell _ _ _ _ _ _ _ _ _ _ _ _ _ r r r tk81 r (.tmp _ _ _ _ r (.tmp _ _ _ _ r .nil))) (by simp) (PuL.rn (xs := [(FoA (Fo.mk (Fo.mk v1_2 v1_2_1).n (Fo.mk v1_2 v1_2_1).rings)), ((SL 1 B) l1008_2), (I 0)]) (.cons (pu_Fo _) (.cons ((pu_l 1 pu_B) _) (.cons (pu_I _) (.nil)))))
def p_r19_Of (K : Nat) (a0 : Int) (a1 : (List Ed)) : Option (Fo × Int) :=
 ((p_r18_Make K a0).bind fun r1 => (bif (r1.2 != 0) then some ((Fo.mk 0 []), r1.2) else ((p_r19_Links K r1.1 a1).bind fun r2 => (bif (r2.2.2 != 0) then some ((Fo.mk 0 []), r2.2.2) else some (r2.1, 0)))))
theorem w_r19_Of {K : Nat} {a0 : Int} {a1 : (List Ed)} {y : (Fo × Int)} (hy : p_r19_Of K a0 a1 = some y) : Does PP GV 74 [] [(I a0), ((SL 2 EdA) a1)] [] [] (.tup [(FoA y.1), (I y.2)]) := by
 unfold p_r19_Of at hy
 refine does_of at74 r (le_ok r) <| ?_
 rintro ⟨_, base, w0, F⟩ rfl
 refine reg 2 r <| rg_alloc (s := 1) (gd_of r) zc81 (elems_one (by rfl)) (lt_ok r) <| asg r r r <| dn <| reg 8 r <| mv r r r <| ?_
 obtain ⟨r1, qr1, hy⟩ := bndI hy
 refine clp (w_r18_Make qr1) ca98 r r (.cons (pu_I _) (.nil)) (.tup (.cons (pu_Fo _) (.cons (pu_I _) (.nil)))) r <| mv r r r <| ext r r r r <| ext r r r r <| rg_alloc (s := 2) (gd_of r) zc81 (elems_one (by rfl)) (lt_ok r) <| str tk81 r r r r r r r <| asg r r r <| dn <| at_seq <| reg 2 r <| mv r r r <| bn r r r r r <| dn <| cd r (fun h1 => ?_) (fun h1 => ?_)
 ·replace hy := ifT hy h1
  refine reg 4 r <| bld bd81 r r r r <| mv r r r <| str tk81 r r r r r r r <| asg r r r <| dn <| at_ret <| cellN (SL 1 I) 1 1 1 r r <| ?_
  replace hy := sj hy
  subst hy
  exact endZ [] (rs := [_, _]) r (by simp) (.inl r) (.cell _ _ _ _ _ _ _ _ _ _ _ _ _ r r r tk81 r (.tmp _ _ _ _ r .nil)) (by simp) (PuL.rn (xs := [(FoA (Fo.mk 0 [])), (I r1.2)]) (.cons (pu_Fo _) (.cons (pu_I _) (.nil))))
 ·replace hy := ifF hy h1
  refine at_skip <| reg 11 r <| ldw tk81 r r r r r r <| mv r r r <| ?_
  obtain ⟨r2, qr2, hy⟩ := bndI hy
  refine clp (w_r19_Links qr2) ca99 r r (.cons (pu_Fo _) (.cons ((pu_l 2 pu_Ed) _) (.nil))) (.tup (.cons (pu_Fo _) (.cons ((pu_l 1 pu_B) _) (.cons (pu_I _) (.nil))))) r <| mv r r r <| ext r r r r <| ext r r r r <| ext r r r r <| rg_alloc (s := 3) (gd_of r) zc81 (elems_one (by rfl)) (lt_ok r) <| str tk81 r r r r r r r <| asg r r r <| asg r r r <| dn <| at_seq <| reg 2 r <| mv r r r <| bn r r r r r <| dn <| cd r (fun h2 => ?_) (fun h2 => ?_)
  ·replace hy := ifT hy h2
   refine reg 4 r <| bld bd81 r r r r <| mv r r r <| str tk81 r r r r r r r <| asg r r r <| dn <| at_ret <| cellN (SL 1 I) 1 1 1 r r <| ?_
   replace hy := sj hy
   subst hy
   exact endZ [] (rs := [_, _]) r (by simp) (.inl r) (.cell _ _ _ _ _ _ _ _ _ _ _ _ _ r r r tk81 r (.tmp _ _ _ _ r .nil)) (by simp) (PuL.rn (xs := [(FoA (Fo.mk 0 [])), (I r2.2.2)]) (.cons (pu_Fo _) (.cons (pu_I _) (.nil))))
  ·replace hy := ifF hy h2
   refine at_skip <| reg 3 r <| ldw tk81 r r r r r r <| str tk81 r r r r r r r <| asg r r r <| dn <| at_ret <| ?_
   replace hy := sj hy
   subst hy
   exact endZ [] (rs := [_, _]) r (by simp) (.inl r) (.cell _ _ _ _ _ _ _ _ _ _ _ _ _ r r r tk81 r (.tmp _ _ _ _ r .nil)) (by simp) (PuL.rn (xs := [(FoA r2.1), (I 0)]) (.cons (pu_Fo _) (.cons (pu_I _) (.nil))))
end Go.Ar
namespace Go.Ar
open Go.RowKit
def p_r19_Classes_L1 (K : Nat) (a0 : Int) : Nat → Int → (List Int) → Option (List Int)
 | 0, _, _ => none
 | n+1, v6_1, l1005_1 => (bif (decide (v6_1 < a0)) then (apP 8 l1005_1.length [v6_1].length (p_r19_Classes_L1 K a0 n (w64 (v6_1 + 1)) (l1005_1 ++ [v6_1]))) else some l1005_1)
def p_r19_Classes_L3 (K : Nat) (a1 : (List Ed)) (a0 : Int) : Nat → Bool → Int → (List Int) → Option (Bool × (List Int))
 | 0, _, _, _ => none
 | n+1, v7_8, v8_8, l1005_8 => (bif (decide (v8_8 < (a1.length : Int))) then (((ixP a1 v8_8 fun v3 => (ixP a1 v8_8 fun v5 => (bif (decide (v3.u < 0)) then some (v7_8, l1005_8) else (bif (decide (v5.v < 0)) then some (v7_8, l1005_8) else (bif (decide (v3.u ≥ a0)) then some (v7_8, l1005_8) else (bif (decide (v5.v ≥ a0)) then some (v7_8, l1005_8) else (bdP l1005_8.length v3.u fun i6 => gtP l1005_8 i6 fun v7 => (bdP l1005_8.length v5.v fun i8 => gtP l1005_8 i8 fun v9 => (bif (v7 == v9) then some (v7_8, l1005_8) else (bdP l1005_8.length v3.u fun i10 => gtP l1005_8 i10 fun v11 => (bdP l1005_8.length v5.v fun i12 => gtP l1005_8 i12 fun v13 => (bdP l1005_8.length v3.u fun i14 => gtP l1005_8 i14 fun v15 => (bdP l1005_8.length v5.v fun i16 => gtP (l1005_8.set i14 (if v13 < v11 then v13 else v11)) i16 fun v17 => some (true, ((l1005_8.set i14 (if v13 < v11 then v13 else v11)).set i16 (if v13 < v11 then v13 else v11)))))))))))))))) : Option (Bool × (List Int))).bind fun (v7_7, l1005_7) => p_r19_Classes_L3 K a1 a0 n v7_7 (w64 (v8_8 + 1)) l1005_7) else some (v7_8, l1005_8))
def p_r19_Classes_L2 (K : Nat) (a1 : (List Ed)) (a0 : Int) : Nat → Bool → (List Int) → Option (List Int)
 | 0, _, _ => none
 | n+1, v7_6, l1005_6 => (bif v7_6 then ((p_r19_Classes_L3 K a1 a0 K false 0 l1005_6 : Option (Bool × (List Int))).bind fun (v7_9, l1005_9) => p_r19_Classes_L2 K a1 a0 n v7_9 l1005_9) else some l1005_6)
def p_r19_Classes (K : Nat) (a0 : Int) (a1 : (List Ed)) : Option (List Int) :=
 ((p_r19_Classes_L1 K a0 K 0 [] : Option (List Int)).bind fun l1005_2 => ((p_r19_Classes_L2 K a1 a0 K true l1005_2 : Option (List Int)).bind fun l1005_10 => some l1005_10))
theorem w_r19_Classes {K : Nat} {a0 : Int} {a1 : (List Ed)} {y : (List Int)} (hy : p_r19_Classes K a0 a1 = some y) : Does PP GV 73 [] [(I a0), ((SL 2 EdA) a1)] [] [] ((SL 1 I) y) := by
 unfold p_r19_Classes at hy
 refine does_of at73 r (le_ok r) <| ?_
 rintro ⟨_, base, w0, F⟩ rfl
 refine reg 1 r <| asg r r r <| dn <| reg 1 r <| asg r r r <| dn <| ?_
 obtain ⟨o1, hy, k1, hk1, hc1⟩ := bndK hy
 refine meetI (fun (p : (List Int) × Nat) => match p with | (l1005_2, g1005_1) => mk [(0, (I a0)), (1, ((SL 2 EdA) a1)), (5, .own 1005 g1005_1 1 0 (l1005_2).length false)] [(1005, some (g1005_1, .buf 1 (l1005_2.map I)))]) (fun p => match p with | (l1005_2, g1005_1) => k1 l1005_2 = some y) ?_ ?_
 ·skip
  refine reg 1 r <| asg r r r <| dn <| at_block <| niloP (I) 5 1005 1 r <| wk (T' := [(0, (I a0)), (1, ((SL 2 EdA) a1)), (5, .own 1005 _ 1 0 ([]).length false), (6, (I 0))]) (H' := [(1005, some (_, .buf 1 ([].map I)))]) (.k r r (.k r r (.k r r (.k r r .nil)))) (.k r r .nil) <| loopI (fun (p : Nat × Int × (List Int) × Nat) => match p with | (n2, v6_1, l1005_1, g1005_2) => mk [(0, (I a0)), (1, ((SL 2 EdA) a1)), (5, .own 1005 g1005_2 1 0 (l1005_1).length false), (6, (I v6_1))] [(1005, some (g1005_2, .buf 1 (l1005_1.map I)))]) (fun p => match p with | (n2, v6_1, l1005_1, g1005_2) => p_r19_Classes_L1 K a0 n2 v6_1 l1005_1 = some o1) (fun p => p.1) ?_ (K, 0, [], _) hy _
  rintro ⟨n2, v6_1, l1005_1, g1005_2⟩ cl hy
  cases n2 with | zero => cases hy | succ n2 => ?_
  change At _ cl (mk _ _) _
  replace hy : p_r19_Classes_L1 K a0 (n2+1) v6_1 l1005_1 = some o1 := hy
  rw [p_r19_Classes_L1] at hy
  refine at_seq <| reg 3 r <| mv r r r <| mv r r r <| bn r r r r r <| dn <| cd r (fun h3 => ?_) (fun h3 => ?_)
  ·replace hy := ifT hy h3
   refine at_skip <| at_seq <| at_block <| reg1 5 r <| mv r r r <| mv r r r <| bldsP I ([v6_1] : List Int) 1 se29 r r r r r r r <| ?_
   obtain ⟨k1a, k1b, hy⟩ := apI hy
   refine apoP (f := I) (l := l1005_1) (zs := [v6_1]) se29 k1a k1b r r r r r r <| asg r r r <| dn <| at_bn <| reg1 3 r <| mv r r r <| bn r r r r r <| asg r r r <| dn <| againI (n2, (w64 (v6_1 + 1)), (l1005_1 ++ [v6_1]), _) r hy (Nat.lt_succ_self _) (.k r r (.k r r (.k r r (.k r r .nil)))) (.k r r .nil)
  ·replace hy := ifF hy h3
   refine at_exit <| at_te <| at_te <| at_inBlock <| ?_
   replace hy := sj hy
   subst hy
   refine metI (l1005_1, _) r hc1 (.k r r (.k r r (.k r r .nil))) (.k r r .nil)
 ·rintro ⟨l1005_2, g1005_1⟩ cl hy
  subst hk1
  change At _ cl (mk _ _) _
  obtain ⟨o3, hy, k3, hk3, hc3⟩ := bndK hy
  refine meetI (fun (p : (List Int) × Nat) => match p with | (l1005_10, g1005_3) => mk [(5, .own 1005 g1005_3 1 0 (l1005_10).length false)] [(1005, some (g1005_3, .buf 1 (l1005_10.map I)))]) (fun p => match p with | (l1005_10, g1005_3) => k3 l1005_10 = some y) ?_ ?_
  ·skip
   refine reg 1 r <| asg r r r <| dn <| at_block <| wk (T' := [(0, (I a0)), (1, ((SL 2 EdA) a1)), (5, .own 1005 _ 1 0 (l1005_2).length false), (7, (B true))]) (H' := [(1005, some (_, .buf 1 (l1005_2.map I)))]) (.k r r (.k r r (.k r r (.k r r .nil)))) (.k r r .nil) <| loopI (fun (p : Nat × Bool × (List Int) × Nat) => match p with | (n4, v7_6, l1005_6, g1005_4) => mk [(0, (I a0)), (1, ((SL 2 EdA) a1)), (5, .own 1005 g1005_4 1 0 (l1005_6).length false), (7, (B v7_6))] [(1005, some (g1005_4, .buf 1 (l1005_6.map I)))]) (fun p => match p with | (n4, v7_6, l1005_6, g1005_4) => p_r19_Classes_L2 K a1 a0 n4 v7_6 l1005_6 = some o3) (fun p => p.1) ?_ (K, true, l1005_2, _) hy _
   rintro ⟨n4, v7_6, l1005_6, g1005_4⟩ cl hy
   cases n4 with | zero => cases hy | succ n4 => ?_
   change At _ cl (mk _ _) _
   replace hy : p_r19_Classes_L2 K a1 a0 (n4+1) v7_6 l1005_6 = some o3 := hy
   rw [p_r19_Classes_L2] at hy
   refine at_seq <| reg 1 r <| mv r r r <| dn <| cd r (fun h4 => ?_) (fun h4 => ?_)
   ·replace hy := ifT hy h4
    refine at_skip <| ?_
    obtain ⟨o5, hy, k5, hk5, hc5⟩ := bndK hy
    refine meetT (fun (p : Bool × (List Int) × Nat) => match p with | (v7_9, l1005_9, g1005_5) => mk [(0, (I a0)), (1, ((SL 2 EdA) a1)), (5, .own 1005 g1005_5 1 0 (l1005_9).length false), (7, (B v7_9))] [(1005, some (g1005_5, .buf 1 (l1005_9.map I)))]) (fun p => match p with | (v7_9, l1005_9, g1005_5) => k5 (v7_9, l1005_9) = some o3) ?_ ?_
    ·skip
     refine at_block <| reg 1 r <| asg r r r <| dn <| reg 1 r <| asg r r r <| dn <| at_block <| wk (T' := [(0, (I a0)), (1, ((SL 2 EdA) a1)), (5, .own 1005 _ 1 0 (l1005_6).length false), (7, (B false)), (8, (I 0))]) (H' := [(1005, some (_, .buf 1 (l1005_6.map I)))]) (.k r r (.k r r (.k r r (.k r r (.k r r .nil))))) (.k r r .nil) <| loopI (fun (p : Nat × Bool × Int × (List Int) × Nat) => match p with | (n6, v7_8, v8_8, l1005_8, g1005_6) => mk [(0, (I a0)), (1, ((SL 2 EdA) a1)), (5, .own 1005 g1005_6 1 0 (l1005_8).length false), (7, (B v7_8)), (8, (I v8_8))] [(1005, some (g1005_6, .buf 1 (l1005_8.map I)))]) (fun p => match p with | (n6, v7_8, v8_8, l1005_8, g1005_6) => p_r19_Classes_L3 K a1 a0 n6 v7_8 v8_8 l1005_8 = some o5) (fun p => p.1) ?_ (K, false, 0, l1005_6, _) hy _
     rintro ⟨n6, v7_8, v8_8, l1005_8, g1005_6⟩ cl hy
     cases n6 with | zero => cases hy | succ n6 => ?_
     change At _ cl (mk _ _) _
     replace hy : p_r19_Classes_L3 K a1 a0 (n6+1) v7_8 v8_8 l1005_8 = some o5 := hy
     rw [p_r19_Classes_L3] at hy
     refine at_seq <| reg 4 r <| mv r r r <| mv r r r <| lnf (f := EdA) slB41 r r r <| bn r r r r r <| dn <| cd r (fun h7 => ?_) (fun h7 => ?_)
     ·replace hy := ifT hy h7
      refine at_skip <| ?_
      obtain ⟨o7, hy, k7, hk7, hc7⟩ := bndK hy
      refine meetI (fun (p : Bool × (List Int) × Nat) => match p with | (v7_7, l1005_7, g1005_7) => mk [(0, (I a0)), (1, ((SL 2 EdA) a1)), (5, .own 1005 g1005_7 1 0 (l1005_7).length false), (7, (B v7_7)), (8, (I v8_8))] [(1005, some (g1005_7, .buf 1 (l1005_7.map I)))]) (fun p => match p with | (v7_7, l1005_7, g1005_7) => k7 (v7_7, l1005_7) = some o5) ?_ ?_
      ·skip
       refine at_block <| regd mixed 12 r <| mv r r r <| mv r r r <| ?_
       obtain ⟨i2, v3, qi2, xv3, hy⟩ := ixI hy
       refine fixP (f := EdA) sl41 qi2 xv3 r r r r <| ffa fo47_0 r r r <| fld tk3 r r r r <| mv r r r <| mv r r r <| ?_
       obtain ⟨i4, v5, qi4, xv5, hy⟩ := ixI hy
       refine fixP (f := EdA) sl41 qi4 xv5 r r r r <| ffa fo47_1 r r r <| fld tk3 r r r r <| asg r r r <| asg r r r <| dn ⟨by kernel_rfl, ?_⟩
       refine at_seq <| regd mixed 27 r <| mv r r r <| bn r r r r r <| mv r r r <| cas 40 r (fun h9 => ?_) (fun h9 => ?_)
       ·replace hy := ifT hy h9
        refine sk r r <| sk r r <| pkt r r r r r <| mv r r r <| sk r r <| sk r r <| sk r r <| pkt r r r r r <| mv r r r <| sk r r <| sk r r <| sk r r <| pkt r r r r r <| mv r r r <| sk r r <| sk r r <| sk r r <| sk r r <| sk r r <| sk r r <| sk r r <| sk r r <| sk r r <| pkt r r r r r <| dn ⟨by kernel_rfl, ?_⟩
        refine cdt r <| at_exit <| at_te <| at_inBlock <| ?_
        replace hy := sj hy
        subst hy
        refine metI (v7_8, l1005_8, _) r hc7 (.k r r (.k r r (.k r r (.k r r (.k r r .nil))))) (.k r r .nil)
       ·replace hy := ifF hy h9
        refine mv r r r <| bn r r r r r <| pkf r r r r r <| mv r r r <| cas 44 r (fun h10 => ?_) (fun h10 => ?_)
        ·replace hy := ifT hy h10
         refine sk r r <| sk r r <| sk r r <| pkt r r r r r <| mv r r r <| sk r r <| sk r r <| sk r r <| pkt r r r r r <| mv r r r <| sk r r <| sk r r <| sk r r <| sk r r <| sk r r <| sk r r <| sk r r <| sk r r <| sk r r <| pkt r r r r r <| dn ⟨by kernel_rfl, ?_⟩
         refine cdt r <| at_exit <| at_te <| at_inBlock <| ?_
         replace hy := sj hy
         subst hy
         refine metI (v7_8, l1005_8, _) r hc7 (.k r r (.k r r (.k r r (.k r r (.k r r .nil))))) (.k r r .nil)
        ·replace hy := ifF hy h10
         refine mv r r r <| mv r r r <| bn r r r r r <| pkf r r r r r <| mv r r r <| cas 49 r (fun h11 => ?_) (fun h11 => ?_)
         ·replace hy := ifT hy h11
          refine sk r r <| sk r r <| sk r r <| pkt r r r r r <| mv r r r <| sk r r <| sk r r <| sk r r <| sk r r <| sk r r <| sk r r <| sk r r <| sk r r <| sk r r <| pkt r r r r r <| dn ⟨by kernel_rfl, ?_⟩
          refine cdt r <| at_exit <| at_te <| at_inBlock <| ?_
          replace hy := sj hy
          subst hy
          refine metI (v7_8, l1005_8, _) r hc7 (.k r r (.k r r (.k r r (.k r r (.k r r .nil))))) (.k r r .nil)
         ·replace hy := ifF hy h11
          refine mv r r r <| mv r r r <| bn r r r r r <| pkf r r r r r <| mv r r r <| cas 54 r (fun h12 => ?_) (fun h12 => ?_)
          ·replace hy := ifT hy h12
           refine sk r r <| sk r r <| sk r r <| sk r r <| sk r r <| sk r r <| sk r r <| sk r r <| sk r r <| pkt r r r r r <| dn ⟨by kernel_rfl, ?_⟩
           refine cdt r <| at_exit <| at_te <| at_inBlock <| ?_
           replace hy := sj hy
           subst hy
           refine metI (v7_8, l1005_8, _) r hc7 (.k r r (.k r r (.k r r (.k r r (.k r r .nil))))) (.k r r .nil)
          ·replace hy := ifF hy h12
           refine mv r r r <| mv r r r <| ?_
           obtain ⟨i6, qi6, bi6, hy⟩ := bdI hy
           obtain ⟨v7, xv7, hy⟩ := gtI hy
           refine ixP' sl29 qi6 bi6 r r r r <| ldP (f := I) tk3 xv7 r r r r r <| mv r r r <| mv r r r <| ?_
           obtain ⟨i8, qi8, bi8, hy⟩ := bdI hy
           obtain ⟨v9, xv9, hy⟩ := gtI hy
           refine ixP' sl29 qi8 bi8 r r r r <| ldP (f := I) tk3 xv9 r r r r r <| bn r r r r r <| pkf r r r r r <| dn ⟨by kernel_rfl, ?_⟩
           refine cd r (fun h13 => ?_) (fun h13 => ?_)
           ·replace hy := ifT hy h13
            refine at_exit <| at_te <| at_inBlock <| ?_
            replace hy := sj hy
            subst hy
            refine metI (v7_8, l1005_8, _) r hc7 (.k r r (.k r r (.k r r (.k r r (.k r r .nil))))) (.k r r .nil)
           ·replace hy := ifF hy h13
            refine at_skip <| regd mixed 10 r <| mv r r r <| mv r r r <| ?_
            obtain ⟨i10, qi10, bi10, hy⟩ := bdI hy
            obtain ⟨v11, xv11, hy⟩ := gtI hy
            refine ixP' sl29 qi10 bi10 r r r r <| ldP (f := I) tk3 xv11 r r r r r <| mv r r r <| mv r r r <| ?_
            obtain ⟨i12, qi12, bi12, hy⟩ := bdI hy
            obtain ⟨v13, xv13, hy⟩ := gtI hy
            refine ixP' sl29 qi12 bi12 r r r r <| ldP (f := I) tk3 xv13 r r r r r <| rg_min (gd_of r) (ev_of r) (ev_of r) (lt_ok r) <| asg r r r <| dn ⟨by kernel_rfl, ?_⟩
            refine reg1 11 r <| mv r r r <| mv r r r <| mv r r r <| mv r r r <| mv r r r <| mv r r r <| ?_
            obtain ⟨i14, qi14, bi14, hy⟩ := bdI hy
            obtain ⟨v15, xv15, hy⟩ := gtI hy
            refine ixP' sl29 qi14 bi14 r r r r <| stP (f := I) ((if v13 < v11 then v13 else v11)) tk3 xv15 r r r r r r <| ?_
            obtain ⟨i16, qi16, bi16, hy⟩ := bdI hy
            obtain ⟨v17, xv17, hy⟩ := gtI hy
            refine ixP' sl29 qi16 bi16 r r r r <| stP (f := I) ((if v13 < v11 then v13 else v11)) tk3 xv17 r r r r r r <| asg r r r <| dn <| at_bn <| ?_
            replace hy := sj hy
            subst hy
            refine metI (true, ((l1005_8.set i14 (if v13 < v11 then v13 else v11)).set i16 (if v13 < v11 then v13 else v11)), _) r hc7 (.k r r (.k r r (.k r (by simp) (.k r r (.k r r .nil))))) (.k r r .nil)
      ·rintro ⟨v7_7, l1005_7, g1005_7⟩ cl hy
       subst hk7
       change At _ cl (mk _ _) _
       refine reg1 3 r <| mv r r r <| bn r r r r r <| asg r r r <| dn <| againI (n6, v7_7, (w64 (v8_8 + 1)), l1005_7, _) r hy (Nat.lt_succ_self _) (.k r r (.k r r (.k r r (.k r r (.k r r .nil))))) (.k r r .nil)
     ·replace hy := ifF hy h7
      refine at_exit <| at_te <| at_te <| at_inBlock <| at_bn <| ?_
      replace hy := sj hy
      subst hy
      refine metI (v7_8, l1005_8, _) r hc5 (.k r r (.k r r (.k r r (.k r r .nil)))) (.k r r .nil)
    ·rintro ⟨v7_9, l1005_9, g1005_5⟩ cl hy
     subst hk5
     change At _ cl (mk _ _) _
     refine againI (n4, v7_9, l1005_9, _) r hy (Nat.lt_succ_self _) (.k r r (.k r r (.k r r (.k r r .nil)))) (.k r r .nil)
   ·replace hy := ifF hy h4
    refine at_exit <| at_te <| at_te <| at_inBlock <| ?_
    replace hy := sj hy
    subst hy
    refine metI (l1005_6, _) r hc3 (.k r r .nil) (.k r r .nil)
  ·rintro ⟨l1005_10, g1005_3⟩ cl hy
   subst hk3
   change At _ cl (mk _ _) _
   refine reg 2 r <| mv r r r <| asg r r r <| dn <| at_ret <| frzP (f := I) (l := l1005_10) 4 1005 r r pu_I <| ?_
   replace hy := sj hy
   subst hy
   exact out1 r (.inl r) (look_of r) r ((pu_l 1 pu_I) _)
def p_r21_Top_L1 (K : Nat)  : Nat → Int → Int → Option Int
 | 0, _, _ => none
 | n+1, v3_1, v4_1 => (bif (decide (v4_1 > 0)) then p_r21_Top_L1 K  n (w64 (v3_1 + 1)) (w64 (Int.tdiv v4_1 2)) else some v3_1)
def p_r21_Top (K : Nat) (a0 : Int) : Option Int :=
 (bif (decide (a0 < 1)) then some 0 else (bif (decide (a0 > 64)) then some 0 else ((p_r21_Top_L1 K  K 0 (w64 (a0 - 1)) : Option Int).bind fun v3_2 => some v3_2)))
theorem w_r21_Top {K : Nat} {a0 : Int} {y : Int} (hy : p_r21_Top K a0 = some y) : Does PP GV 72 [] [(I a0)] [] [] (I y) := by
 unfold p_r21_Top at hy
 refine does_of at72 r (le_ok r) <| ?_
 rintro ⟨_, base, w0, F⟩ rfl
 refine reg 1 r <| asg r r r <| dn <| at_seq <| reg 6 r <| mv r r r <| bn r r r r r <| mv r r r <| cas 7 r (fun h1 => ?_) (fun h1 => ?_)
 ·replace hy := ifT hy h1
  refine sk r r <| sk r r <| pkt r r r r r <| dn <| cdt r <| reg 1 r <| asg r r r <| dn <| at_ret <| ?_
  replace hy := sj hy
  subst hy
  exact out1 r (.inl r) (look_of r) r (pu_I _)
 ·replace hy := ifF hy h1
  refine mv r r r <| bn r r r r r <| pkf r r r r r <| dn <| cd r (fun h2 => ?_) (fun h2 => ?_)
  ·replace hy := ifT hy h2
   refine reg 1 r <| asg r r r <| dn <| at_ret <| ?_
   replace hy := sj hy
   subst hy
   exact out1 r (.inl r) (look_of r) r (pu_I _)
  ·replace hy := ifF hy h2
   refine at_skip <| reg 1 r <| asg r r r <| dn <| ?_
   obtain ⟨o1, hy, k1, hk1, hc1⟩ := bndK hy
   refine meetI (fun (p : Int) => match p with | v3_2 => mk [(3, (I v3_2))] []) (fun p => match p with | v3_2 => k1 v3_2 = some y) ?_ ?_
   ·skip
    refine reg 3 r <| mv r r r <| bn r r r r r <| asg r r r <| dn <| at_block <| wk (T' := [(3, (I 0)), (4, (I (w64 (a0 - 1))))]) (H' := []) (.k r r (.k r r .nil)) .nil <| loopI (fun (p : Nat × Int × Int) => match p with | (n2, v3_1, v4_1) => mk [(3, (I v3_1)), (4, (I v4_1))] []) (fun p => match p with | (n2, v3_1, v4_1) => p_r21_Top_L1 K  n2 v3_1 v4_1 = some o1) (fun p => p.1) ?_ (K, 0, (w64 (a0 - 1))) hy _
    rintro ⟨n2, v3_1, v4_1⟩ cl hy
    cases n2 with | zero => cases hy | succ n2 => ?_
    change At _ cl (mk _ _) _
    replace hy : p_r21_Top_L1 K  (n2+1) v3_1 v4_1 = some o1 := hy
    rw [p_r21_Top_L1] at hy
    refine at_seq <| reg 2 r <| mv r r r <| bn r r r r r <| dn <| cd r (fun h5 => ?_) (fun h5 => ?_)
    ·replace hy := ifT hy h5
     refine at_skip <| at_seq <| at_block <| reg1 3 r <| mv r r r <| bn r r r r r <| asg r r r <| dn <| at_bn <| reg1 3 r <| mv r r r <| dv r r r r (by decide) <| asg r r r <| dn <| againI (n2, (w64 (v3_1 + 1)), (w64 (Int.tdiv v4_1 2))) r hy (Nat.lt_succ_self _) (.k r r (.k r r .nil)) .nil
    ·replace hy := ifF hy h5
     refine at_exit <| at_te <| at_te <| at_inBlock <| ?_
     replace hy := sj hy
     subst hy
     refine metI v3_1 r hc1 (.k r r .nil) .nil
   ·rintro v3_2 cl hy
    subst hk1
    change At _ cl (mk _ _) _
    refine reg 2 r <| mv r r r <| asg r r r <| dn <| at_ret <| ?_
    replace hy := sj hy
    subst hy
    exact out1 r (.inl r) (look_of r) r (pu_I _)
def p_r21_Right_L1 (K : Nat) (a0 : Gr) : Nat → Int → (List Ed) → Option (Sum (List Ed) Bool)
 | 0, _, _ => none
 | n+1, v4_1, l1003_1 => (bif (decide (v4_1 < (a0.ties.length : Int))) then (ixP a0.ties v4_1 fun v2 => (bif (decide (v2.u < 0)) then some (.inr false) else (bif (decide (v2.u ≥ v2.v)) then some (.inr false) else (bif (decide (v2.v ≥ a0.n)) then some (.inr false) else (bif (decide (v2.level < 0)) then some (.inr false) else ((p_r21_Top K a0.n).bind fun r3 => (bif (decide (v2.level > r3)) then some (.inr false) else (bif (decide (v4_1 > 0)) then (ixP a0.ties (w64 (v4_1 - 1)) fun v5 => (bif (decide (v5.u > v2.u)) then some (.inr false) else (ixP a0.ties (w64 (v4_1 - 1)) fun v7 => (bif (v7.u == v2.u) then (ixP a0.ties (w64 (v4_1 - 1)) fun v9 => (bif (decide (v9.v ≥ v2.v)) then some (.inr false) else (bif v2.tree then (apP 16 l1003_1.length [(Ed.mk v2.u v2.v)].length (p_r21_Right_L1 K a0 n (w64 (v4_1 + 1)) (l1003_1 ++ [(Ed.mk v2.u v2.v)]))) else p_r21_Right_L1 K a0 n (w64 (v4_1 + 1)) l1003_1))) else (bif v2.tree then (apP 16 l1003_1.length [(Ed.mk v2.u v2.v)].length (p_r21_Right_L1 K a0 n (w64 (v4_1 + 1)) (l1003_1 ++ [(Ed.mk v2.u v2.v)]))) else p_r21_Right_L1 K a0 n (w64 (v4_1 + 1)) l1003_1))))) else (bif v2.tree then (apP 16 l1003_1.length [(Ed.mk v2.u v2.v)].length (p_r21_Right_L1 K a0 n (w64 (v4_1 + 1)) (l1003_1 ++ [(Ed.mk v2.u v2.v)]))) else p_r21_Right_L1 K a0 n (w64 (v4_1 + 1)) l1003_1))))))))) else some (.inl l1003_1))
def p_r21_Right_L2 (K : Nat) (a0 : Gr) : Nat → (List Int) → Int → Int → Option Int
 | 0, _, _, _ => none
 | n+1, v6_3, v7_3, v8_3 => (bif (decide (v8_3 < a0.n)) then (ixP v6_3 v8_3 fun v15 => (bif (v15 == v8_3) then p_r21_Right_L2 K a0 n v6_3 (w64 (v7_3 + 1)) (w64 (v8_3 + 1)) else p_r21_Right_L2 K a0 n v6_3 v7_3 (w64 (v8_3 + 1)))) else some v7_3)
def p_r21_Right (K : Nat) (a0 : Gr) : Option Bool :=
 (bif (decide (a0.n < 1)) then some false else (bif (decide (a0.n > 64)) then some false else (bif (decide ((a0.ties.length : Int) > 400)) then some false else ((p_r21_Right_L1 K a0 K 0 [] : Option (Sum (List Ed) Bool)).bind fun | .inl l1003_2 => ((p_r19_Classes K a0.n l1003_2).bind fun r13 => ((p_r21_Right_L2 K a0 K r13 0 0 : Option Int).bind fun v7_4 => some (v7_4 == (w64 (a0.n - (l1003_2.length : Int)))))) | .inr r => some r))))
theorem w_r21_Right {K : Nat} {a0 : Gr} {y : Bool} (hy : p_r21_Right K a0 = some y) : Does PP GV 45 [] [(GrA a0)] [] [] (B y) := by
 unfold p_r21_Right at hy
 refine does_of at45 r (le_ok r) <| ?_
 rintro ⟨_, base, w0, F⟩ rfl
 refine reg 2 r <| bx 1 r r r r <| asg r r r <| dn <| at_seq <| reg 14 r <| fa fo24_0 r r r <| ld tk3 r r r r r r <| bn r r r r r <| mv r r r <| cas 12 r (fun h1 => ?_) (fun h1 => ?_)
 ·replace hy := ifT hy h1
  refine sk r r <| sk r r <| sk r r <| pkt r r r r r <| mv r r r <| sk r r <| sk r r <| sk r r <| sk r r <| pkt r r r r r <| dn <| cdt r <| reg 1 r <| asg r r r <| dn <| at_ret <| ?_
  replace hy := sj hy
  subst hy
  exact out1 r (.inl r) (look_of r) r (pu_B _)
 ·replace hy := ifF hy h1
  refine fa fo24_0 r r r <| ld tk3 r r r r r r <| bn r r r r r <| pkf r r r r r <| mv r r r <| cas 17 r (fun h2 => ?_) (fun h2 => ?_)
  ·replace hy := ifT hy h2
   refine sk r r <| sk r r <| sk r r <| sk r r <| pkt r r r r r <| dn <| cdt r <| reg 1 r <| asg r r r <| dn <| at_ret <| ?_
   replace hy := sj hy
   subst hy
   exact out1 r (.inl r) (look_of r) r (pu_B _)
  ·replace hy := ifF hy h2
   refine fa fo24_1 r r r <| ld tk22 r r r r r r <| lnf (f := TiA) slB22 r r r <| bn r r r r r <| pkf r r r r r <| dn <| cd r (fun h3 => ?_) (fun h3 => ?_)
   ·replace hy := ifT hy h3
    refine reg 1 r <| asg r r r <| dn <| at_ret <| ?_
    replace hy := sj hy
    subst hy
    exact out1 r (.inl r) (look_of r) r (pu_B _)
   ·replace hy := ifF hy h3
    refine at_skip <| reg 1 r <| asg r r r <| dn <| ?_
    obtain ⟨o1, hy, k1, hk1, hc1⟩ := bndK hy
    refine meetI (fun (p : (List Ed) × Nat × Nat) => match p with | (l1003_2, g1_1, g1003_1) => mk [(1, .ptr 1 g1_1 0 0), (3, .own 1003 g1003_1 2 0 (l1003_2).length false)] [(1, some (g1_1, .buf 2 [.agg [(I a0.n), ((SL 4 TiA) a0.ties)]])), (1003, some (g1003_1, .buf 2 (l1003_2.map EdA)))]) (fun p => match p with | (l1003_2, g1_1, g1003_1) => k1 (.inl l1003_2) = some y) ?_ ?_
    ·skip
     refine reg 1 r <| asg r r r <| dn <| at_block <| niloP (EdA) 3 1003 2 r <| wk (T' := [(1, .ptr 1 _ 0 0), (3, .own 1003 _ 2 0 ([]).length false), (4, (I 0))]) (H' := [(1, some (_, .buf 2 [.agg [(I a0.n), ((SL 4 TiA) a0.ties)]])), (1003, some (_, .buf 2 ([].map EdA)))]) (.k r r (.k r r (.k r r .nil))) (.k r r (.k r r .nil)) <| loopI (fun (p : Nat × Int × (List Ed) × Nat × Nat) => match p with | (n2, v4_1, l1003_1, g1_2, g1003_2) => mk [(1, .ptr 1 g1_2 0 0), (3, .own 1003 g1003_2 2 0 (l1003_1).length false), (4, (I v4_1))] [(1, some (g1_2, .buf 2 [.agg [(I a0.n), ((SL 4 TiA) a0.ties)]])), (1003, some (g1003_2, .buf 2 (l1003_1.map EdA)))]) (fun p => match p with | (n2, v4_1, l1003_1, g1_2, g1003_2) => p_r21_Right_L1 K a0 n2 v4_1 l1003_1 = some o1) (fun p => p.1) ?_ (K, 0, [], _, _) hy _
     rintro ⟨n2, v4_1, l1003_1, g1_2, g1003_2⟩ cl hy
     cases n2 with | zero => cases hy | succ n2 => ?_
     change At _ cl (mk _ _) _
     replace hy : p_r21_Right_L1 K a0 (n2+1) v4_1 l1003_1 = some o1 := hy
     rw [p_r21_Right_L1] at hy
     refine at_seq <| reg 5 r <| mv r r r <| fa fo24_1 r r r <| ld tk22 r r r r r r <| lnf (f := TiA) slB22 r r r <| bn r r r r r <| dn <| cd r (fun h6 => ?_) (fun h6 => ?_)
     ·replace hy := ifT hy h6
      refine at_skip <| at_seq <| at_block <| reg 7 r <| fa fo24_1 r r r <| ld tk22 r r r r r r <| mv r r r <| ?_
      obtain ⟨i1, v2, qi1, xv2, hy⟩ := ixI hy
      refine fixP (f := TiA) sl22 qi1 xv2 r r r r <| fldw tk45 r r r r <| rg_alloc (s := 2) (gd_of r) zc45 (elems_one (by rfl)) (lt_ok r) <| str tk45 r r r r r r r <| dn <| at_seq <| regd mixed 30 r <| fa fo45_0 r r r <| ld tk3 r r r r r r <| bn r r r r r <| mv r r r <| cas 38 r (fun h7 => ?_) (fun h7 => ?_)
      ·replace hy := ifT hy h7
       refine sk r r <| sk r r <| sk r r <| sk r r <| sk r r <| pkt r r r r r <| mv r r r <| sk r r <| sk r r <| sk r r <| sk r r <| sk r r <| pkt r r r r r <| mv r r r <| sk r r <| sk r r <| sk r r <| pkt r r r r r <| mv r r r <| sk r r <| sk r r <| sk r r <| sk r r <| sk r r <| sk r r <| pkt r r r r r <| dn ⟨by kernel_rfl, ?_⟩
       refine cdt r <| reg 1 r <| asg r r r <| dn <| at_ret <| ?_
       replace hy := sj hy
       subst hy
       subst hk1
       replace hc1 := Option.some.inj hc1
       subst hc1
       exact out1 r (.inl r) (look_of r) r (pu_B _)
      ·replace hy := ifF hy h7
       refine fa fo45_0 r r r <| ld tk3 r r r r r r <| fa fo45_1 r r r <| ld tk3 r r r r r r <| bn r r r r r <| pkf r r r r r <| mv r r r <| cas 45 r (fun h8 => ?_) (fun h8 => ?_)
       ·replace hy := ifT hy h8
        refine sk r r <| sk r r <| sk r r <| sk r r <| sk r r <| pkt r r r r r <| mv r r r <| sk r r <| sk r r <| sk r r <| pkt r r r r r <| mv r r r <| sk r r <| sk r r <| sk r r <| sk r r <| sk r r <| sk r r <| pkt r r r r r <| dn ⟨by kernel_rfl, ?_⟩
        refine cdt r <| reg 1 r <| asg r r r <| dn <| at_ret <| ?_
        replace hy := sj hy
        subst hy
        subst hk1
        replace hc1 := Option.some.inj hc1
        subst hc1
        exact out1 r (.inl r) (look_of r) r (pu_B _)
       ·replace hy := ifF hy h8
        refine fa fo45_1 r r r <| ld tk3 r r r r r r <| fa fo24_0 r r r <| ld tk3 r r r r r r <| bn r r r r r <| pkf r r r r r <| mv r r r <| cas 52 r (fun h9 => ?_) (fun h9 => ?_)
        ·replace hy := ifT hy h9
         refine sk r r <| sk r r <| sk r r <| pkt r r r r r <| mv r r r <| sk r r <| sk r r <| sk r r <| sk r r <| sk r r <| sk r r <| pkt r r r r r <| dn ⟨by kernel_rfl, ?_⟩
         refine cdt r <| reg 1 r <| asg r r r <| dn <| at_ret <| ?_
         replace hy := sj hy
         subst hy
         subst hk1
         replace hc1 := Option.some.inj hc1
         subst hc1
         exact out1 r (.inl r) (look_of r) r (pu_B _)
        ·replace hy := ifF hy h9
         refine fa fo45_2 r r r <| ld tk3 r r r r r r <| bn r r r r r <| pkf r r r r r <| mv r r r <| cas 57 r (fun h10 => ?_) (fun h10 => ?_)
         ·replace hy := ifT hy h10
          refine sk r r <| sk r r <| sk r r <| sk r r <| sk r r <| sk r r <| pkt r r r r r <| dn ⟨by kernel_rfl, ?_⟩
          refine cdt r <| reg 1 r <| asg r r r <| dn <| at_ret <| ?_
          replace hy := sj hy
          subst hy
          subst hk1
          replace hc1 := Option.some.inj hc1
          subst hc1
          exact out1 r (.inl r) (look_of r) r (pu_B _)
         ·replace hy := ifF hy h10
          refine fa fo45_2 r r r <| ld tk3 r r r r r r <| fa fo24_0 r r r <| ld tk3 r r r r r r <| ?_
          obtain ⟨r3, qr3, hy⟩ := bndI hy
          refine clp (w_r21_Top qr3) ca72 r r (.cons (pu_I _) (.nil)) (.one (pu_I _)) r <| bn r r r r r <| pkf r r r r r <| dn ⟨by kernel_rfl, ?_⟩
          refine cd r (fun h11 => ?_) (fun h11 => ?_)
          ·replace hy := ifT hy h11
           refine reg 1 r <| asg r r r <| dn <| at_ret <| ?_
           replace hy := sj hy
           subst hy
           subst hk1
           replace hc1 := Option.some.inj hc1
           subst hc1
           exact out1 r (.inl r) (look_of r) r (pu_B _)
          ·replace hy := ifF hy h11
           refine at_skip <| at_seq <| regd mixed 38 r <| mv r r r <| bn r r r r r <| mv r r r <| cas 67 r (fun h12 => ?_) (fun h12 => ?_)
           ·replace hy := ifT hy h12
            refine fa fo24_1 r r r <| ld tk22 r r r r r r <| mv r r r <| bn r r r r r <| ?_
            obtain ⟨i4, v5, qi4, xv5, hy⟩ := ixI hy
            refine fixP (f := TiA) sl22 qi4 xv5 r r r r <| ffa fo45_0 r r r <| fld tk3 r r r r <| fa fo45_0 r r r <| ld tk3 r r r r r r <| bn r r r r r <| mv r r r <| cas 78 r (fun h13 => ?_) (fun h13 => ?_)
            ·replace hy := ifT hy h13
             refine sk r r <| sk r r <| sk r r <| sk r r <| sk r r <| sk r r <| sk r r <| sk r r <| sk r r <| sk r r <| sk r r <| sk r r <| sk r r <| sk r r <| sk r r <| sk r r <| sk r r <| sk r r <| sk r r <| sk r r <| sk r r <| sk r r <| pkt r r r r r <| pkt r r r r r <| dn ⟨by kernel_rfl, ?_⟩
             refine cdt r <| reg 1 r <| asg r r r <| dn <| at_ret <| ?_
             replace hy := sj hy
             subst hy
             subst hk1
             replace hc1 := Option.some.inj hc1
             subst hc1
             exact out1 r (.inl r) (look_of r) r (pu_B _)
            ·replace hy := ifF hy h13
             refine fa fo24_1 r r r <| ld tk22 r r r r r r <| mv r r r <| bn r r r r r <| ?_
             obtain ⟨i6, v7, qi6, xv7, hy⟩ := ixI hy
             refine fixP (f := TiA) sl22 qi6 xv7 r r r r <| ffa fo45_0 r r r <| fld tk3 r r r r <| fa fo45_0 r r r <| ld tk3 r r r r r r <| bn r r r r r <| mv r r r <| cas 89 r (fun h14 => ?_) (fun h14 => ?_)
             ·replace hy := ifT hy h14
              refine fa fo24_1 r r r <| ld tk22 r r r r r r <| mv r r r <| bn r r r r r <| ?_
              obtain ⟨i8, v9, qi8, xv9, hy⟩ := ixI hy
              refine fixP (f := TiA) sl22 qi8 xv9 r r r r <| ffa fo45_1 r r r <| fld tk3 r r r r <| fa fo45_1 r r r <| ld tk3 r r r r r r <| bn r r r r r <| pkt r r r r r <| pkf r r r r r <| pkt r r r r r <| dn ⟨by kernel_rfl, ?_⟩
              refine cd r (fun h15 => ?_) (fun h15 => ?_)
              ·replace hy := ifT hy h15
               refine reg 1 r <| asg r r r <| dn <| at_ret <| ?_
               replace hy := sj hy
               subst hy
               subst hk1
               replace hc1 := Option.some.inj hc1
               subst hc1
               exact out1 r (.inl r) (look_of r) r (pu_B _)
              ·replace hy := ifF hy h15
               refine at_skip <| reg 2 r <| fa fo45_3 r r r <| ld tk4 r r r r r r <| dn <| cd r (fun h16 => ?_) (fun h16 => ?_)
               ·replace hy := ifT hy h16
                refine reg1 9 r <| mv r r r <| fa fo45_0 r r r <| ld tk3 r r r r r r <| fa fo45_1 r r r <| ld tk3 r r r r r r <| bld bd47 r r r r <| bldsP EdA ([(Ed.mk v2.u v2.v)] : List Ed) 3 se41 r r r r r r r <| ?_
                obtain ⟨k10a, k10b, hy⟩ := apI hy
                refine apoP (f := EdA) (l := l1003_1) (zs := [(Ed.mk v2.u v2.v)]) se41 k10a k10b r r r r r r <| asg r r r <| dn <| at_bn <| reg1 3 r <| mv r r r <| bn r r r r r <| asg r r r <| dn <| againI (n2, (w64 (v4_1 + 1)), (l1003_1 ++ [(Ed.mk v2.u v2.v)]), _, _) r hy (Nat.lt_succ_self _) (.k r r (.k r r (.k r r .nil))) (.k r r (.k r r .nil))
               ·replace hy := ifF hy h16
                refine at_skip <| at_bn <| reg1 3 r <| mv r r r <| bn r r r r r <| asg r r r <| dn <| againI (n2, (w64 (v4_1 + 1)), l1003_1, _, _) r hy (Nat.lt_succ_self _) (.k r r (.k r r (.k r r .nil))) (.k r r (.k r r .nil))
             ·replace hy := ifF hy h14
              refine sk r r <| sk r r <| sk r r <| sk r r <| sk r r <| sk r r <| sk r r <| sk r r <| sk r r <| sk r r <| pkf r r r r r <| pkf r r r r r <| pkt r r r r r <| dn ⟨by kernel_rfl, ?_⟩
              refine cdf r <| at_skip <| reg 2 r <| fa fo45_3 r r r <| ld tk4 r r r r r r <| dn <| cd r (fun h15 => ?_) (fun h15 => ?_)
              ·replace hy := ifT hy h15
               refine reg1 9 r <| mv r r r <| fa fo45_0 r r r <| ld tk3 r r r r r r <| fa fo45_1 r r r <| ld tk3 r r r r r r <| bld bd47 r r r r <| bldsP EdA ([(Ed.mk v2.u v2.v)] : List Ed) 4 se41 r r r r r r r <| ?_
               obtain ⟨k11a, k11b, hy⟩ := apI hy
               refine apoP (f := EdA) (l := l1003_1) (zs := [(Ed.mk v2.u v2.v)]) se41 k11a k11b r r r r r r <| asg r r r <| dn <| at_bn <| reg1 3 r <| mv r r r <| bn r r r r r <| asg r r r <| dn <| againI (n2, (w64 (v4_1 + 1)), (l1003_1 ++ [(Ed.mk v2.u v2.v)]), _, _) r hy (Nat.lt_succ_self _) (.k r r (.k r r (.k r r .nil))) (.k r r (.k r r .nil))
              ·replace hy := ifF hy h15
               refine at_skip <| at_bn <| reg1 3 r <| mv r r r <| bn r r r r r <| asg r r r <| dn <| againI (n2, (w64 (v4_1 + 1)), l1003_1, _, _) r hy (Nat.lt_succ_self _) (.k r r (.k r r (.k r r .nil))) (.k r r (.k r r .nil))
           ·replace hy := ifF hy h12
            refine sk r r <| sk r r <| sk r r <| sk r r <| sk r r <| sk r r <| sk r r <| sk r r <| sk r r <| sk r r <| sk r r <| sk r r <| sk r r <| sk r r <| sk r r <| sk r r <| sk r r <| sk r r <| sk r r <| sk r r <| sk r r <| sk r r <| sk r r <| sk r r <| sk r r <| sk r r <| sk r r <| sk r r <| sk r r <| sk r r <| sk r r <| sk r r <| sk r r <| sk r r <| pkf r r r r r <| dn ⟨by kernel_rfl, ?_⟩
            refine cdf r <| at_skip <| reg 2 r <| fa fo45_3 r r r <| ld tk4 r r r r r r <| dn <| cd r (fun h13 => ?_) (fun h13 => ?_)
            ·replace hy := ifT hy h13
             refine reg1 9 r <| mv r r r <| fa fo45_0 r r r <| ld tk3 r r r r r r <| fa fo45_1 r r r <| ld tk3 r r r r r r <| bld bd47 r r r r <| bldsP EdA ([(Ed.mk v2.u v2.v)] : List Ed) 5 se41 r r r r r r r <| ?_
             obtain ⟨k12a, k12b, hy⟩ := apI hy
             refine apoP (f := EdA) (l := l1003_1) (zs := [(Ed.mk v2.u v2.v)]) se41 k12a k12b r r r r r r <| asg r r r <| dn <| at_bn <| reg1 3 r <| mv r r r <| bn r r r r r <| asg r r r <| dn <| againI (n2, (w64 (v4_1 + 1)), (l1003_1 ++ [(Ed.mk v2.u v2.v)]), _, _) r hy (Nat.lt_succ_self _) (.k r r (.k r r (.k r r .nil))) (.k r r (.k r r .nil))
            ·replace hy := ifF hy h13
             refine at_skip <| at_bn <| reg1 3 r <| mv r r r <| bn r r r r r <| asg r r r <| dn <| againI (n2, (w64 (v4_1 + 1)), l1003_1, _, _) r hy (Nat.lt_succ_self _) (.k r r (.k r r (.k r r .nil))) (.k r r (.k r r .nil))
     ·replace hy := ifF hy h6
      refine at_exit <| at_te <| at_te <| at_inBlock <| ?_
      replace hy := sj hy
      subst hy
      refine metI (l1003_1, _, _) r hc1 (.k r r (.k r r .nil)) (.k r r (.k r r .nil))
    ·rintro ⟨l1003_2, g1_1, g1003_1⟩ cl hy
     subst hk1
     change At _ cl (mk _ _) _
     refine frzP (f := EdA) (l := l1003_2) 3 1003 r r pu_Ed <| reg 5 r <| fa fo24_0 r r r <| ld tk3 r r r r r r <| mv r r r <| ?_
     obtain ⟨r13, qr13, hy⟩ := bndI hy
     refine clp (w_r19_Classes qr13) ca73 r r (.cons (pu_I _) (.cons ((pu_l 2 pu_Ed) _) (.nil))) (.one ((pu_l 1 pu_I) _)) r <| asg r r r <| dn <| reg 1 r <| asg r r r <| dn <| ?_
     obtain ⟨o3, hy, k3, hk3, hc3⟩ := bndK hy
     refine meetI (fun (p : Int × Nat) => match p with | (v7_4, g1_3) => mk [(1, .ptr 1 g1_3 0 0), (3, ((SL 2 EdA) l1003_2)), (7, (I v7_4))] [(1, some (g1_3, .buf 2 [.agg [(I a0.n), ((SL 4 TiA) a0.ties)]]))]) (fun p => match p with | (v7_4, g1_3) => k3 v7_4 = some y) ?_ ?_
     ·skip
      refine reg 1 r <| asg r r r <| dn <| at_block <| wk (T' := [(1, .ptr 1 _ 0 0), (3, ((SL 2 EdA) l1003_2)), (6, ((SL 1 I) r13)), (7, (I 0)), (8, (I 0))]) (H' := [(1, some (_, .buf 2 [.agg [(I a0.n), ((SL 4 TiA) a0.ties)]]))]) (.k r r (.k r r (.k r r (.k r r (.k r r .nil))))) (.k r r .nil) <| loopI (fun (p : Nat × (List Int) × Int × Int × Nat) => match p with | (n4, v6_3, v7_3, v8_3, g1_4) => mk [(1, .ptr 1 g1_4 0 0), (3, ((SL 2 EdA) l1003_2)), (6, ((SL 1 I) v6_3)), (7, (I v7_3)), (8, (I v8_3))] [(1, some (g1_4, .buf 2 [.agg [(I a0.n), ((SL 4 TiA) a0.ties)]]))]) (fun p => match p with | (n4, v6_3, v7_3, v8_3, g1_4) => p_r21_Right_L2 K a0 n4 v6_3 v7_3 v8_3 = some o3) (fun p => p.1) ?_ (K, r13, 0, 0, _) hy _
      rintro ⟨n4, v6_3, v7_3, v8_3, g1_4⟩ cl hy
      cases n4 with | zero => cases hy | succ n4 => ?_
      change At _ cl (mk _ _) _
      replace hy : p_r21_Right_L2 K a0 (n4+1) v6_3 v7_3 v8_3 = some o3 := hy
      rw [p_r21_Right_L2] at hy
      refine at_seq <| reg 4 r <| mv r r r <| fa fo24_0 r r r <| ld tk3 r r r r r r <| bn r r r r r <| dn <| cd r (fun h7 => ?_) (fun h7 => ?_)
      ·replace hy := ifT hy h7
       refine at_skip <| at_seq <| at_block <| reg 6 r <| mv r r r <| mv r r r <| ?_
       obtain ⟨i14, v15, qi14, xv15, hy⟩ := ixI hy
       refine fixP (f := I) sl29 qi14 xv15 r r r r <| fld tk3 r r r r <| mv r r r <| bn r r r r r <| dn <| cd r (fun h8 => ?_) (fun h8 => ?_)
       ·replace hy := ifT hy h8
        refine reg1 3 r <| mv r r r <| bn r r r r r <| asg r r r <| dn <| at_bn <| reg1 3 r <| mv r r r <| bn r r r r r <| asg r r r <| dn <| againI (n4, v6_3, (w64 (v7_3 + 1)), (w64 (v8_3 + 1)), _) r hy (Nat.lt_succ_self _) (.k r r (.k r r (.k r r (.k r r (.k r r .nil))))) (.k r r .nil)
       ·replace hy := ifF hy h8
        refine at_skip <| at_bn <| reg1 3 r <| mv r r r <| bn r r r r r <| asg r r r <| dn <| againI (n4, v6_3, v7_3, (w64 (v8_3 + 1)), _) r hy (Nat.lt_succ_self _) (.k r r (.k r r (.k r r (.k r r (.k r r .nil))))) (.k r r .nil)
      ·replace hy := ifF hy h7
       refine at_exit <| at_te <| at_te <| at_inBlock <| ?_
       replace hy := sj hy
       subst hy
       refine metI (v7_3, _) r hc3 (.k r r (.k r r (.k r r .nil))) (.k r r .nil)
     ·rintro ⟨v7_4, g1_3⟩ cl hy
      subst hk3
      change At _ cl (mk _ _) _
      refine reg 8 r <| mv r r r <| fa fo24_0 r r r <| ld tk3 r r r r r r <| mv r r r <| lnf (f := EdA) slB41 r r r <| bn r r r r r <| bn r r r r r <| asg r r r <| dn <| at_ret <| ?_
      replace hy := sj hy
      subst hy
      exact out1 r (.inl r) (look_of r) r (pu_B _)
def p_r21_Trees_L1 (K : Nat) (a0 : Gr) (a1 : Int) : Nat → Int → (List Ed) → Option (List Ed)
 | 0, _, _ => none
 | n+1, v6_1, l1005_1 => (bif (decide (v6_1 < (a0.ties.length : Int))) then (ixP a0.ties v6_1 fun v2 => (bif v2.tree then (ixP a0.ties v6_1 fun v4 => (bif (decide (v4.level ≥ a1)) then (ixP a0.ties v6_1 fun v6 => (ixP a0.ties v6_1 fun v8 => (apP 16 l1005_1.length [(Ed.mk v6.u v8.v)].length (p_r21_Trees_L1 K a0 a1 n (w64 (v6_1 + 1)) (l1005_1 ++ [(Ed.mk v6.u v8.v)]))))) else p_r21_Trees_L1 K a0 a1 n (w64 (v6_1 + 1)) l1005_1)) else p_r21_Trees_L1 K a0 a1 n (w64 (v6_1 + 1)) l1005_1)) else some l1005_1)
def p_r21_Trees (K : Nat) (a0 : Gr) (a1 : Int) : Option (List Ed) :=
 ((p_r21_Trees_L1 K a0 a1 K 0 [] : Option (List Ed)).bind fun l1005_2 => some l1005_2)
theorem w_r21_Trees {K : Nat} {a0 : Gr} {a1 : Int} {y : (List Ed)} (hy : p_r21_Trees K a0 a1 = some y) : Does PP GV 75 [] [(GrA a0), (I a1)] [] [] ((SL 2 EdA) y) := by
 unfold p_r21_Trees at hy
 refine does_of at75 r (le_ok r) <| ?_
 rintro ⟨_, base, w0, F⟩ rfl
 refine reg 2 r <| bx 1 r r r r <| asg r r r <| dn <| reg 1 r <| asg r r r <| dn <| ?_
 obtain ⟨o1, hy, k1, hk1, hc1⟩ := bndK hy
 refine meetI (fun (p : (List Ed) × Nat) => match p with | (l1005_2, g1005_1) => mk [(5, .own 1005 g1005_1 2 0 (l1005_2).length false)] [(1005, some (g1005_1, .buf 2 (l1005_2.map EdA)))]) (fun p => match p with | (l1005_2, g1005_1) => k1 l1005_2 = some y) ?_ ?_
 ·skip
  refine reg 1 r <| asg r r r <| dn <| at_block <| niloP (EdA) 5 1005 2 r <| wk (T' := [(1, (I a1)), (2, .ptr 1 _ 0 0), (5, .own 1005 _ 2 0 ([]).length false), (6, (I 0))]) (H' := [(1, some (_, .buf 2 [.agg [(I a0.n), ((SL 4 TiA) a0.ties)]])), (1005, some (_, .buf 2 ([].map EdA)))]) (.k r r (.k r r (.k r r (.k r r .nil)))) (.k r r (.k r r .nil)) <| loopI (fun (p : Nat × Int × (List Ed) × Nat × Nat) => match p with | (n2, v6_1, l1005_1, g1_2, g1005_2) => mk [(1, (I a1)), (2, .ptr 1 g1_2 0 0), (5, .own 1005 g1005_2 2 0 (l1005_1).length false), (6, (I v6_1))] [(1, some (g1_2, .buf 2 [.agg [(I a0.n), ((SL 4 TiA) a0.ties)]])), (1005, some (g1005_2, .buf 2 (l1005_1.map EdA)))]) (fun p => match p with | (n2, v6_1, l1005_1, g1_2, g1005_2) => p_r21_Trees_L1 K a0 a1 n2 v6_1 l1005_1 = some o1) (fun p => p.1) ?_ (K, 0, [], _, _) hy _
  rintro ⟨n2, v6_1, l1005_1, g1_2, g1005_2⟩ cl hy
  cases n2 with | zero => cases hy | succ n2 => ?_
  change At _ cl (mk _ _) _
  replace hy : p_r21_Trees_L1 K a0 a1 (n2+1) v6_1 l1005_1 = some o1 := hy
  rw [p_r21_Trees_L1] at hy
  refine at_seq <| reg 5 r <| mv r r r <| fa fo24_1 r r r <| ld tk22 r r r r r r <| lnf (f := TiA) slB22 r r r <| bn r r r r r <| dn <| cd r (fun h3 => ?_) (fun h3 => ?_)
  ·replace hy := ifT hy h3
   refine at_skip <| at_seq <| at_block <| reg 16 r <| fa fo24_1 r r r <| ld tk22 r r r r r r <| mv r r r <| ?_
   obtain ⟨i1, v2, qi1, xv2, hy⟩ := ixI hy
   refine fixP (f := TiA) sl22 qi1 xv2 r r r r <| ffa fo45_3 r r r <| fld tk4 r r r r <| mv r r r <| cas 20 r (fun h4 => ?_) (fun h4 => ?_)
   ·replace hy := ifT hy h4
    refine fa fo24_1 r r r <| ld tk22 r r r r r r <| mv r r r <| ?_
    obtain ⟨i3, v4, qi3, xv4, hy⟩ := ixI hy
    refine fixP (f := TiA) sl22 qi3 xv4 r r r r <| ffa fo45_2 r r r <| fld tk3 r r r r <| mv r r r <| bn r r r r r <| pkt r r r r r <| dn <| cd r (fun h5 => ?_) (fun h5 => ?_)
    ·replace hy := ifT hy h5
     refine regd1 mixed 17 r <| mv r r r <| fa fo24_1 r r r <| ld tk22 r r r r r r <| mv r r r <| ?_
     obtain ⟨i5, v6, qi5, xv6, hy⟩ := ixI hy
     refine fixP (f := TiA) sl22 qi5 xv6 r r r r <| ffa fo45_0 r r r <| fld tk3 r r r r <| fa fo24_1 r r r <| ld tk22 r r r r r r <| mv r r r <| ?_
     obtain ⟨i7, v8, qi7, xv8, hy⟩ := ixI hy
     refine fixP (f := TiA) sl22 qi7 xv8 r r r r <| ffa fo45_1 r r r <| fld tk3 r r r r <| bld bd47 r r r r <| bldsP EdA ([(Ed.mk v6.u v8.v)] : List Ed) 2 se41 r r r r r r r <| ?_
     obtain ⟨k9a, k9b, hy⟩ := apI hy
     refine apoP (f := EdA) (l := l1005_1) (zs := [(Ed.mk v6.u v8.v)]) se41 k9a k9b r r r r r r <| asg r r r <| dn ⟨by kernel_rfl, ?_⟩
     refine at_bn <| reg1 3 r <| mv r r r <| bn r r r r r <| asg r r r <| dn <| againI (n2, (w64 (v6_1 + 1)), (l1005_1 ++ [(Ed.mk v6.u v8.v)]), _, _) r hy (Nat.lt_succ_self _) (.k r r (.k r r (.k r r (.k r r .nil)))) (.k r r (.k r r .nil))
    ·replace hy := ifF hy h5
     refine at_skip <| at_bn <| reg1 3 r <| mv r r r <| bn r r r r r <| asg r r r <| dn <| againI (n2, (w64 (v6_1 + 1)), l1005_1, _, _) r hy (Nat.lt_succ_self _) (.k r r (.k r r (.k r r (.k r r .nil)))) (.k r r (.k r r .nil))
   ·replace hy := ifF hy h4
    refine sk r r <| sk r r <| sk r r <| sk r r <| sk r r <| sk r r <| sk r r <| sk r r <| pkf r r r r r <| dn <| cdf r <| at_skip <| at_bn <| reg1 3 r <| mv r r r <| bn r r r r r <| asg r r r <| dn <| againI (n2, (w64 (v6_1 + 1)), l1005_1, _, _) r hy (Nat.lt_succ_self _) (.k r r (.k r r (.k r r (.k r r .nil)))) (.k r r (.k r r .nil))
  ·replace hy := ifF hy h3
   refine at_exit <| at_te <| at_te <| at_inBlock <| ?_
   replace hy := sj hy
   subst hy
   refine metI (l1005_1, _) r hc1 (.k r r .nil) (.k r r .nil)
 ·rintro ⟨l1005_2, g1005_1⟩ cl hy
  subst hk1
  change At _ cl (mk _ _) _
  refine reg 2 r <| mv r r r <| asg r r r <| dn <| at_ret <| frzP (f := EdA) (l := l1005_2) 4 1005 r r pu_Ed <| ?_
  replace hy := sj hy
  subst hy
  exact out1 r (.inl r) (look_of r) r ((pu_l 2 pu_Ed) _)
def p_r21_Forest (K : Nat) (a0 : Gr) (a1 : Int) : Option (Fo × Int) :=
 ((p_r21_Right K a0).bind fun r1 => (bif (!r1) then some ((Fo.mk 0 []), 1) else ((p_r21_Trees K a0 a1).bind fun r2 => ((p_r19_Of K a0.n r2).bind fun r3 => some (r3.1, r3.2)))))
theorem w_r21_Forest {K : Nat} {a0 : Gr} {a1 : Int} {y : (Fo × Int)} (hy : p_r21_Forest K a0 a1 = some y) : Does PP GV 46 [] [(GrA a0), (I a1)] [] [] (.tup [(FoA y.1), (I y.2)]) := by
 unfold p_r21_Forest at hy
 refine does_of at46 r (le_ok r) <| ?_
 rintro ⟨_, base, w0, F⟩ rfl
 refine reg 3 r <| bx 1 r r r r <| rg_alloc (s := 2) (gd_of r) zc81 (elems_one (by rfl)) (lt_ok r) <| asg r r r <| dn <| at_seq <| reg 3 r <| ldw tk24 r r r r r r <| ?_
 obtain ⟨r1, qr1, hy⟩ := bndI hy
 refine clp (w_r21_Right qr1) ca45 r r (.cons (pu_Gr _) (.nil)) (.one (pu_B _)) r <| nt r r r <| dn <| cd r (fun h1 => ?_) (fun h1 => ?_)
 ·replace hy := ifT hy h1
  refine reg 3 r <| bld bd81 r r r r <| str tk81 r r r r r r r <| asg r r r <| dn <| at_ret <| cellN (SL 1 I) 2 1 1 r r <| ?_
  replace hy := sj hy
  subst hy
  exact endZ [] (rs := [_, _]) r (by simp) (.inl r) (.cell _ _ _ _ _ _ _ _ _ _ _ _ _ r r r tk81 r (.tmp _ _ _ _ r .nil)) (by simp) (PuL.rn (xs := [(FoA (Fo.mk 0 [])), (I 1)]) (.cons (pu_Fo _) (.cons (pu_I _) (.nil))))
 ·replace hy := ifF hy h1
  refine at_skip <| regd mixed 10 r <| fa fo24_0 r r r <| ld tk3 r r r r r r <| ldw tk24 r r r r r r <| mv r r r <| ?_
  obtain ⟨r2, qr2, hy⟩ := bndI hy
  refine clp (w_r21_Trees qr2) ca75 r r (.cons (pu_Gr _) (.cons (pu_I _) (.nil))) (.one ((pu_l 2 pu_Ed) _)) r <| ?_
  obtain ⟨r3, qr3, hy⟩ := bndI hy
  refine clp (w_r19_Of qr3) ca74 r r (.cons (pu_I _) (.cons ((pu_l 2 pu_Ed) _) (.nil))) (.tup (.cons (pu_Fo _) (.cons (pu_I _) (.nil)))) r <| ext r r r r <| ext r r r r <| str tk81 r r r r r r r <| asg r r r <| dn ⟨by kernel_rfl, ?_⟩
  refine at_ret <| ?_
  replace hy := sj hy
  subst hy
  exact endZ [] (rs := [_, _]) r (by simp) (.inl r) (.cell _ _ _ _ _ _ _ _ _ _ _ _ _ r r r tk81 r (.tmp _ _ _ _ r .nil)) (by simp) (PuL.rn (xs := [(FoA r3.1), (I r3.2)]) (.cons (pu_Fo _) (.cons (pu_I _) (.nil))))
def p_r29_Tour (K : Nat) (a0 : Gr) (a1 : Int) (a2 : Int) : Option (List Int) :=
 ((p_r21_Forest K a0 a2).bind fun r1 => ((p_r18_Of K r1.1 a1).bind fun r2 => (bif (decide (r2 < 0)) then some [] else (ixP r1.1.rings r2 fun v4 => some v4))))
theorem w_r29_Tour {K : Nat} {a0 : Gr} {a1 : Int} {a2 : Int} {y : (List Int)} (hy : p_r29_Tour K a0 a1 a2 = some y) : Does PP GV 23 [] [(GrA a0), (I a1), (I a2)] [] [] ((SL 1 I) y) := by
 unfold p_r29_Tour at hy
 refine does_of at23 r (le_ok r) <| ?_
 rintro ⟨_, base, w0, F⟩ rfl
 refine reg 2 r <| bx 1 r r r r <| asg r r r <| dn <| reg 9 r <| ldw tk24 r r r r r r <| mv r r r <| ?_
 obtain ⟨r1, qr1, hy⟩ := bndI hy
 refine clp (w_r21_Forest qr1) ca46 r r (.cons (pu_Gr _) (.cons (pu_I _) (.nil))) (.tup (.cons (pu_Fo _) (.cons (pu_I _) (.nil)))) r <| mv r r r <| ext r r r r <| ext r r r r <| rg_alloc (s := 2) (gd_of r) zc81 (elems_one (by rfl)) (lt_ok r) <| str tk81 r r r r r r r <| asg r r r <| dn <| reg 4 r <| ldw tk81 r r r r r r <| mv r r r <| ?_
 obtain ⟨r2, qr2, hy⟩ := bndI hy
 refine clp (w_r18_Of qr2) ca47 r r (.cons (pu_Fo _) (.cons (pu_I _) (.nil))) (.one (pu_I _)) r <| asg r r r <| dn <| at_seq <| reg 2 r <| mv r r r <| bn r r r r r <| dn <| cd r (fun h1 => ?_) (fun h1 => ?_)
 ·replace hy := ifT hy h1
  refine reg 1 r <| asg r r r <| dn <| at_ret <| atnilP (I) 6 1 r <| ?_
  replace hy := sj hy
  subst hy
  exact out1 r (.inl r) (look_of r) r ((pu_l 1 pu_I) _)
 ·replace hy := ifF hy h1
  refine at_skip <| reg 6 r <| fa fo81_1 r r r <| ld tk30 r r r r r r <| mv r r r <| ?_
  obtain ⟨i3, v4, qi3, xv4, hy⟩ := ixI hy
  refine fixP (f := (SL 1 I)) sl30 qi3 xv4 r r r r <| fld tk29 r r r r <| asg r r r <| dn <| at_ret <| ?_
  replace hy := sj hy
  subst hy
  exact out1 r (.inl r) (look_of r) r ((pu_l 1 pu_I) _)
def p_r29_asked (K : Nat) (a0 : Gr) (a1 : Int) : Option Int :=
 ((p_r21_Right K a0).bind fun r1 => (bif (!r1) then some 1 else (bif (decide (a1 < 0)) then some 10 else (bif (decide (a1 ≥ a0.n)) then some 10 else some 0))))
theorem w_r29_asked {K : Nat} {a0 : Gr} {a1 : Int} {y : Int} (hy : p_r29_asked K a0 a1 = some y) : Does PP GV 22 [] [(GrA a0), (I a1)] [] [] (I y) := by
 unfold p_r29_asked at hy
 refine does_of at22 r (le_ok r) <| ?_
 rintro ⟨_, base, w0, F⟩ rfl
 refine reg 2 r <| bx 1 r r r r <| asg r r r <| dn <| at_seq <| reg 3 r <| ldw tk24 r r r r r r <| ?_
 obtain ⟨r1, qr1, hy⟩ := bndI hy
 refine clp (w_r21_Right qr1) ca45 r r (.cons (pu_Gr _) (.nil)) (.one (pu_B _)) r <| nt r r r <| dn <| cd r (fun h1 => ?_) (fun h1 => ?_)
 ·replace hy := ifT hy h1
  refine reg 1 r <| asg r r r <| dn <| at_ret <| ?_
  replace hy := sj hy
  subst hy
  exact out1 r (.inl r) (look_of r) r (pu_I _)
 ·replace hy := ifF hy h1
  refine at_skip <| at_seq <| reg 8 r <| mv r r r <| bn r r r r r <| mv r r r <| cas 10 r (fun h2 => ?_) (fun h2 => ?_)
  ·replace hy := ifT hy h2
   refine sk r r <| sk r r <| sk r r <| sk r r <| pkt r r r r r <| dn <| cdt r <| reg 1 r <| asg r r r <| dn <| at_ret <| ?_
   replace hy := sj hy
   subst hy
   exact out1 r (.inl r) (look_of r) r (pu_I _)
  ·replace hy := ifF hy h2
   refine mv r r r <| fa fo24_0 r r r <| ld tk3 r r r r r r <| bn r r r r r <| pkf r r r r r <| dn <| cd r (fun h3 => ?_) (fun h3 => ?_)
   ·replace hy := ifT hy h3
    refine reg 1 r <| asg r r r <| dn <| at_ret <| ?_
    replace hy := sj hy
    subst hy
    exact out1 r (.inl r) (look_of r) r (pu_I _)
   ·replace hy := ifF hy h3
    refine at_skip <| reg 1 r <| asg r r r <| dn <| at_ret <| ?_
    replace hy := sj hy
    subst hy
    exact out1 r (.inl r) (look_of r) r (pu_I _)
def p_r29_outside (K : Nat) (a0 : Ti) (a1 : Int) : Option Bool :=
 (bif (!a0.tree) then some (a0.level == a1) else some false)
theorem w_r29_outside {K : Nat} {a0 : Ti} {a1 : Int} {y : Bool} (hy : p_r29_outside K a0 a1 = some y) : Does PP GV 51 [] [(TiA a0), (I a1)] [] [] (B y) := by
 unfold p_r29_outside at hy
 refine does_of at51 r (le_ok r) <| ?_
 rintro ⟨_, base, w0, F⟩ rfl
 refine reg 2 r <| bx 1 r r r r <| asg r r r <| dn <| reg 10 r <| fa fo45_3 r r r <| ld tk4 r r r r r r <| nt r r r <| mv r r r <| cas 8 r (fun h1 => ?_) (fun h1 => ?_)
 ·replace hy := ifT hy h1
  refine fa fo45_2 r r r <| ld tk3 r r r r r r <| mv r r r <| bn r r r r r <| pkt r r r r r <| asg r r r <| dn <| at_ret <| ?_
  replace hy := sj hy
  subst hy
  exact out1 r (.inl r) (look_of r) r (pu_B _)
 ·replace hy := ifF hy h1
  refine sk r r <| sk r r <| sk r r <| sk r r <| pkf r r r r r <| asg r r r <| dn <| at_ret <| ?_
  replace hy := sj hy
  subst hy
  exact out1 r (.inl r) (look_of r) r (pu_B _)
def p_r29_marked_L1 (K : Nat) (a0 : Gr) (a2 : Int) (a1 : Int) : Nat → Int → Option (Sum Unit Bool)
 | 0, _ => none
 | n+1, v7_1 => (bif (decide (v7_1 < (a0.ties.length : Int))) then (ixP a0.ties v7_1 fun v2 => ((p_r29_outside K v2 a2).bind fun r3 => (bif r3 then (ixP a0.ties v7_1 fun v5 => (bif (v5.u == a1) then some (.inr true) else (ixP a0.ties v7_1 fun v7 => (bif (v7.v == a1) then some (.inr true) else p_r29_marked_L1 K a0 a2 a1 n (w64 (v7_1 + 1)))))) else p_r29_marked_L1 K a0 a2 a1 n (w64 (v7_1 + 1))))) else some (.inl ()))
def p_r29_marked (K : Nat) (a0 : Gr) (a1 : Int) (a2 : Int) : Option Bool :=
 ((p_r29_marked_L1 K a0 a2 a1 K 0 : Option (Sum Unit Bool)).bind fun | .inl _ => some false | .inr r => some r)
theorem w_r29_marked {K : Nat} {a0 : Gr} {a1 : Int} {a2 : Int} {y : Bool} (hy : p_r29_marked K a0 a1 a2 = some y) : Does PP GV 26 [] [(GrA a0), (I a1), (I a2)] [] [] (B y) := by
 unfold p_r29_marked at hy
 refine does_of at26 r (le_ok r) <| ?_
 rintro ⟨_, base, w0, F⟩ rfl
 refine reg 2 r <| bx 1 r r r r <| asg r r r <| dn <| ?_
 obtain ⟨o1, hy, k1, hk1, hc1⟩ := bndK hy
 refine meetI (fun (p : Unit) => match p with | _ => mk [] []) (fun p => match p with | _ => k1 (.inl ()) = some y) ?_ ?_
 ·skip
  refine reg 1 r <| asg r r r <| dn <| at_block <| wk (T' := [(1, (I a1)), (2, (I a2)), (3, .ptr 1 _ 0 0), (7, (I 0))]) (H' := [(1, some (_, .buf 2 [.agg [(I a0.n), ((SL 4 TiA) a0.ties)]]))]) (.k r r (.k r r (.k r r (.k r r .nil)))) (.k r r .nil) <| loopI (fun (p : Nat × Int × Nat) => match p with | (n2, v7_1, g1_2) => mk [(1, (I a1)), (2, (I a2)), (3, .ptr 1 g1_2 0 0), (7, (I v7_1))] [(1, some (g1_2, .buf 2 [.agg [(I a0.n), ((SL 4 TiA) a0.ties)]]))]) (fun p => match p with | (n2, v7_1, g1_2) => p_r29_marked_L1 K a0 a2 a1 n2 v7_1 = some o1) (fun p => p.1) ?_ (K, 0, _) hy _
  rintro ⟨n2, v7_1, g1_2⟩ cl hy
  cases n2 with | zero => cases hy | succ n2 => ?_
  change At _ cl (mk _ _) _
  replace hy : p_r29_marked_L1 K a0 a2 a1 (n2+1) v7_1 = some o1 := hy
  rw [p_r29_marked_L1] at hy
  refine at_seq <| reg 5 r <| mv r r r <| fa fo24_1 r r r <| ld tk22 r r r r r r <| lnf (f := TiA) slB22 r r r <| bn r r r r r <| dn <| cd r (fun h3 => ?_) (fun h3 => ?_)
  ·replace hy := ifT hy h3
   refine at_skip <| at_seq <| at_block <| reg 27 r <| fa fo24_1 r r r <| ld tk22 r r r r r r <| mv r r r <| ?_
   obtain ⟨i1, v2, qi1, xv2, hy⟩ := ixI hy
   refine fixP (f := TiA) sl22 qi1 xv2 r r r r <| fldw tk45 r r r r <| mv r r r <| ?_
   obtain ⟨r3, qr3, hy⟩ := bndI hy
   refine clp (w_r29_outside qr3) ca51 r r (.cons (pu_Ti _) (.cons (pu_I _) (.nil))) (.one (pu_B _)) r <| mv r r r <| cas 22 r (fun h4 => ?_) (fun h4 => ?_)
   ·replace hy := ifT hy h4
    refine fa fo24_1 r r r <| ld tk22 r r r r r r <| mv r r r <| ?_
    obtain ⟨i4, v5, qi4, xv5, hy⟩ := ixI hy
    refine fixP (f := TiA) sl22 qi4 xv5 r r r r <| ffa fo45_0 r r r <| fld tk3 r r r r <| mv r r r <| bn r r r r r <| mv r r r <| cas 31 r (fun h5 => ?_) (fun h5 => ?_)
    ·replace hy := ifT hy h5
     refine sk r r <| sk r r <| sk r r <| sk r r <| sk r r <| sk r r <| sk r r <| sk r r <| pkt r r r r r <| pkt r r r r r <| dn <| cdt r <| reg 1 r <| asg r r r <| dn <| at_ret <| ?_
     replace hy := sj hy
     subst hy
     subst hk1
     replace hc1 := Option.some.inj hc1
     subst hc1
     exact out1 r (.inl r) (look_of r) r (pu_B _)
    ·replace hy := ifF hy h5
     refine fa fo24_1 r r r <| ld tk22 r r r r r r <| mv r r r <| ?_
     obtain ⟨i6, v7, qi6, xv7, hy⟩ := ixI hy
     refine fixP (f := TiA) sl22 qi6 xv7 r r r r <| ffa fo45_1 r r r <| fld tk3 r r r r <| mv r r r <| bn r r r r r <| pkf r r r r r <| pkt r r r r r <| dn <| cd r (fun h6 => ?_) (fun h6 => ?_)
     ·replace hy := ifT hy h6
      refine reg 1 r <| asg r r r <| dn <| at_ret <| ?_
      replace hy := sj hy
      subst hy
      subst hk1
      replace hc1 := Option.some.inj hc1
      subst hc1
      exact out1 r (.inl r) (look_of r) r (pu_B _)
     ·replace hy := ifF hy h6
      refine at_skip <| at_bn <| reg1 3 r <| mv r r r <| bn r r r r r <| asg r r r <| dn <| againI (n2, (w64 (v7_1 + 1)), _) r hy (Nat.lt_succ_self _) (.k r r (.k r r (.k r r (.k r r .nil)))) (.k r r .nil)
   ·replace hy := ifF hy h4
    refine sk r r <| sk r r <| sk r r <| sk r r <| sk r r <| sk r r <| sk r r <| sk r r <| sk r r <| sk r r <| sk r r <| sk r r <| sk r r <| sk r r <| sk r r <| sk r r <| sk r r <| sk r r <| pkf r r r r r <| dn <| cdf r <| at_skip <| at_bn <| reg1 3 r <| mv r r r <| bn r r r r r <| asg r r r <| dn <| againI (n2, (w64 (v7_1 + 1)), _) r hy (Nat.lt_succ_self _) (.k r r (.k r r (.k r r (.k r r .nil)))) (.k r r .nil)
  ·replace hy := ifF hy h3
   refine at_exit <| at_te <| at_te <| at_inBlock <| ?_
   replace hy := sj hy
   subst hy
   refine metI () r hc1 .nil .nil
 ·rintro ⟨⟩ cl hy
  subst hk1
  change At _ cl (mk _ _) _
  refine reg 1 r <| asg r r r <| dn <| at_ret <| ?_
  replace hy := sj hy
  subst hy
  exact out1 r (.inl r) (look_of r) r (pu_B _)
def p_r29_Tower_L1 (K : Nat) (a0 : Gr) (a2 : Int) : Nat → (List Int) → Int → (List Int) → (List Int) → (List (List Int)) → (List Bool) → Option ((List Int) × (List Int) × (List (List Int)) × (List Bool))
 | 0, _, _, _, _, _, _ => none
 | n+1, v12_1, v16_1, v3_1, v3_1_1, v3_1_2, l1015_1 => (bif (decide (v16_1 < (v12_1.length : Int))) then (ixP v12_1 v16_1 fun v6 => (bif (decide (v6 < a0.n)) then (ixP v12_1 v16_1 fun v8 => ((p_r29_marked K a0 v8 a2).bind fun r9 => (apP 1 l1015_1.length [r9].length (p_r29_Tower_L1 K a0 a2 n v12_1 (w64 (v16_1 + 1)) v3_1 v3_1_1 v3_1_2 (l1015_1 ++ [r9]))))) else (apP 1 l1015_1.length [false].length (p_r29_Tower_L1 K a0 a2 n v12_1 (w64 (v16_1 + 1)) v3_1 v3_1_1 v3_1_2 (l1015_1 ++ [false]))))) else some (v3_1, v3_1_1, v3_1_2, l1015_1))
def p_r29_Tower (K : Nat) (a0 : Gr) (a1 : Int) (a2 : Int) (a3 : (List Int)) : Option (Tw × (List (List Int)) × Int) :=
 ((p_r29_asked K a0 a1).bind fun r1 => (bif (r1 != 0) then some ((Tw.mk [] [] []), [], r1) else ((p_r29_Tour K a0 a1 a2).bind fun r2 => ((p_r14_Heights K r2 a3).bind fun r3 => ((p_r14_Build K r2 r3).bind fun r4 => ((p_r29_Tower_L1 K a0 a2 K r2 0 r4.1.tokens r4.1.heights r4.1.next [] : Option ((List Int) × (List Int) × (List (List Int)) × (List Bool))).bind fun (v3_2, v3_2_1, v3_2_2, l1015_2) => ((p_r17_Mark K (Tw.mk v3_2 v3_2_1 v3_2_2) l1015_2).bind fun r12 => some ((Tw.mk (Tw.mk v3_2 v3_2_1 v3_2_2).tokens (Tw.mk v3_2 v3_2_1 v3_2_2).heights (Tw.mk v3_2 v3_2_1 v3_2_2).next), r12.1, r12.2))))))))
theorem w_r29_Tower {K : Nat} {a0 : Gr} {a1 : Int} {a2 : Int} {a3 : (List Int)} {y : (Tw × (List (List Int)) × Int)} (hy : p_r29_Tower K a0 a1 a2 a3 = some y) : Does PP GV 8 [] [(GrA a0), (I a1), (I a2), ((SL 1 (J .u32)) a3)] [] [] (.tup [(TwA y.1), ((SL 1 (SL 1 I)) y.2.1), (I y.2.2)]) := by
 unfold p_r29_Tower at hy
 refine does_of at8 r (le_ok r) <| ?_
 rintro ⟨_, base, w0, F⟩ rfl
 refine reg 4 r <| bx 1 r r r r <| rg_alloc (s := 2) (gd_of r) zc32 (elems_one (by rfl)) (lt_ok r) <| asg r r r <| asg r r r <| dn <| reg 4 r <| ldw tk24 r r r r r r <| mv r r r <| ?_
 obtain ⟨r1, qr1, hy⟩ := bndI hy
 refine clp (w_r29_asked qr1) ca22 r r (.cons (pu_Gr _) (.cons (pu_I _) (.nil))) (.one (pu_I _)) r <| asg r r r <| dn <| at_seq <| reg 2 r <| mv r r r <| bn r r r r r <| dn <| cd r (fun h1 => ?_) (fun h1 => ?_)
 ·replace hy := ifT hy h1
  refine reg 5 r <| bld bd32 r r r r <| mv r r r <| str tk32 r r r r r r r <| asg r r r <| asg r r r <| dn <| at_ret <| atnilP ((SL 1 I)) 9 1 r <| cellN I 2 0 1 r r <| cellN I 2 1 1 r r <| cellN (SL 1 I) 2 2 1 r r <| ?_
  replace hy := sj hy
  subst hy
  exact endZ [] (rs := [_, _, _]) r (by simp) (.inl r) (.cell _ _ _ _ _ _ _ _ _ _ _ _ _ r r r tk32 r (.tmp _ _ _ _ r (.tmp _ _ _ _ r .nil))) (by simp) (PuL.rn (xs := [(TwA (Tw.mk [] [] [])), ((SL 1 (SL 1 I)) []), (I r1)]) (.cons (pu_Tw _) (.cons ((pu_l 1 (pu_l 1 pu_I)) _) (.cons (pu_I _) (.nil)))))
 ·replace hy := ifF hy h1
  refine at_skip <| reg 5 r <| ldw tk24 r r r r r r <| mv r r r <| mv r r r <| ?_
  obtain ⟨r2, qr2, hy⟩ := bndI hy
  refine clp (w_r29_Tour qr2) ca23 r r (.cons (pu_Gr _) (.cons (pu_I _) (.cons (pu_I _) (.nil)))) (.one ((pu_l 1 pu_I) _)) r <| asg r r r <| dn <| reg 11 r <| mv r r r <| mv r r r <| mv r r r <| ?_
  obtain ⟨r3, qr3, hy⟩ := bndI hy
  refine clp (w_r14_Heights qr3) ca25 r r (.cons ((pu_l 1 pu_I) _) (.cons ((pu_l 1 (pu_J _)) _) (.nil))) (.one ((pu_l 1 pu_I) _)) r <| ?_
  obtain ⟨r4, qr4, hy⟩ := bndI hy
  refine clp (w_r14_Build qr4) ca24 r r (.cons ((pu_l 1 pu_I) _) (.cons ((pu_l 1 pu_I) _) (.nil))) (.tup (.cons (pu_Tw _) (.cons (pu_I _) (.nil)))) r <| mv r r r <| ext r r r r <| ext r r r r <| rg_alloc (s := 3) (gd_of r) zc32 (elems_one (by rfl)) (lt_ok r) <| str tk32 r r r r r r r <| asg r r r <| dn <| reg 1 r <| asg r r r <| dn <| ?_
  obtain ⟨o1, hy, k1, hk1, hc1⟩ := bndK hy
  refine meetI (fun (p : (List Int) × (List Int) × (List (List Int)) × (List Bool) × Nat × Nat × Nat) => match p with | (v3_2, v3_2_1, v3_2_2, l1015_2, g2_1, g3_1, g1015_1) => mk [(8, .ptr 2 g2_1 0 0), (13, .ptr 3 g3_1 0 0), (15, .own 1015 g1015_1 1 0 (l1015_2).length false)] [(2, some (g2_1, .buf 3 [.agg [.v (.slice none 0 0), .v (.slice none 0 0), .v (.slice none 0 0)]])), (3, some (g3_1, .buf 3 [.agg [((SL 1 I) v3_2), ((SL 1 I) v3_2_1), ((SL 1 (SL 1 I)) v3_2_2)]])), (1015, some (g1015_1, .buf 1 (l1015_2.map B)))]) (fun p => match p with | (v3_2, v3_2_1, v3_2_2, l1015_2, g2_1, g3_1, g1015_1) => k1 (v3_2, v3_2_1, v3_2_2, l1015_2) = some y) ?_ ?_
  ·skip
   refine reg 1 r <| asg r r r <| dn <| at_block <| niloP (B) 15 1015 1 r <| wk (T' := [(2, (I a2)), (4, .ptr 1 _ 0 0), (8, .ptr 2 _ 0 0), (12, ((SL 1 I) r2)), (13, .ptr 3 _ 0 0), (15, .own 1015 _ 1 0 ([]).length false), (16, (I 0))]) (H' := [(1, some (_, .buf 2 [.agg [(I a0.n), ((SL 4 TiA) a0.ties)]])), (2, some (_, .buf 3 [.agg [.v (.slice none 0 0), .v (.slice none 0 0), .v (.slice none 0 0)]])), (3, some (_, .buf 3 [.agg [((SL 1 I) r4.1.tokens), ((SL 1 I) r4.1.heights), ((SL 1 (SL 1 I)) r4.1.next)]])), (1015, some (_, .buf 1 ([].map B)))]) (.k r r (.k r r (.k r r (.k r r (.k r r (.k r r (.k r r .nil))))))) (.k r r (.k r r (.k r r (.k r r .nil)))) <| loopI (fun (p : Nat × (List Int) × Int × (List Int) × (List Int) × (List (List Int)) × (List Bool) × Nat × Nat × Nat × Nat) => match p with | (n2, v12_1, v16_1, v3_1, v3_1_1, v3_1_2, l1015_1, g1_2, g2_2, g3_2, g1015_2) => mk [(2, (I a2)), (4, .ptr 1 g1_2 0 0), (8, .ptr 2 g2_2 0 0), (12, ((SL 1 I) v12_1)), (13, .ptr 3 g3_2 0 0), (15, .own 1015 g1015_2 1 0 (l1015_1).length false), (16, (I v16_1))] [(1, some (g1_2, .buf 2 [.agg [(I a0.n), ((SL 4 TiA) a0.ties)]])), (2, some (g2_2, .buf 3 [.agg [.v (.slice none 0 0), .v (.slice none 0 0), .v (.slice none 0 0)]])), (3, some (g3_2, .buf 3 [.agg [((SL 1 I) v3_1), ((SL 1 I) v3_1_1), ((SL 1 (SL 1 I)) v3_1_2)]])), (1015, some (g1015_2, .buf 1 (l1015_1.map B)))]) (fun p => match p with | (n2, v12_1, v16_1, v3_1, v3_1_1, v3_1_2, l1015_1, g1_2, g2_2, g3_2, g1015_2) => p_r29_Tower_L1 K a0 a2 n2 v12_1 v16_1 v3_1 v3_1_1 v3_1_2 l1015_1 = some o1) (fun p => p.1) ?_ (K, r2, 0, r4.1.tokens, r4.1.heights, r4.1.next, [], _, _, _, _) hy _
   rintro ⟨n2, v12_1, v16_1, v3_1, v3_1_1, v3_1_2, l1015_1, g1_2, g2_2, g3_2, g1015_2⟩ cl hy
   cases n2 with | zero => cases hy | succ n2 => ?_
   change At _ cl (mk _ _) _
   replace hy : p_r29_Tower_L1 K a0 a2 (n2+1) v12_1 v16_1 v3_1 v3_1_1 v3_1_2 l1015_1 = some o1 := hy
   rw [p_r29_Tower_L1] at hy
   refine at_seq <| reg 4 r <| mv r r r <| mv r r r <| lnf (f := I) slB29 r r r <| bn r r r r r <| dn <| cd r (fun h4 => ?_) (fun h4 => ?_)
   ·replace hy := ifT hy h4
    refine at_skip <| at_seq <| at_block <| regd1 mixed 20 r <| mv r r r <| mv r r r <| mv r r r <| ?_
    obtain ⟨i5, v6, qi5, xv6, hy⟩ := ixI hy
    refine fixP (f := I) sl29 qi5 xv6 r r r r <| fld tk3 r r r r <| fa fo24_0 r r r <| ld tk3 r r r r r r <| bn r r r r r <| mv r r r <| cas 51 r (fun h5 => ?_) (fun h5 => ?_)
    ·replace hy := ifT hy h5
     refine ldw tk24 r r r r r r <| mv r r r <| mv r r r <| ?_
     obtain ⟨i7, v8, qi7, xv8, hy⟩ := ixI hy
     refine fixP (f := I) sl29 qi7 xv8 r r r r <| fld tk3 r r r r <| mv r r r <| ?_
     obtain ⟨r9, qr9, hy⟩ := bndI hy
     refine clp (w_r29_marked qr9) ca26 r r (.cons (pu_Gr _) (.cons (pu_I _) (.cons (pu_I _) (.nil)))) (.one (pu_B _)) r <| pkt r r r r r <| bldsP B ([r9] : List Bool) 4 se66 r r r r r r r <| ?_
     obtain ⟨k10a, k10b, hy⟩ := apI hy
     refine apoP (f := B) (l := l1015_1) (zs := [r9]) se66 k10a k10b r r r r r r <| asg r r r <| dn ⟨by kernel_rfl, ?_⟩
     refine at_bn <| reg1 3 r <| mv r r r <| bn r r r r r <| asg r r r <| dn <| againI (n2, v12_1, (w64 (v16_1 + 1)), v3_1, v3_1_1, v3_1_2, (l1015_1 ++ [r9]), _, _, _, _) r hy (Nat.lt_succ_self _) (.k r r (.k r r (.k r r (.k r r (.k r r (.k r r (.k r r .nil))))))) (.k r r (.k r r (.k r r (.k r r .nil))))
    ·replace hy := ifF hy h5
     refine sk r r <| sk r r <| sk r r <| sk r r <| sk r r <| sk r r <| sk r r <| pkf r r r r r <| bldsP B ([false] : List Bool) 5 se66 r r r r r r r <| ?_
     obtain ⟨k11a, k11b, hy⟩ := apI hy
     refine apoP (f := B) (l := l1015_1) (zs := [false]) se66 k11a k11b r r r r r r <| asg r r r <| dn ⟨by kernel_rfl, ?_⟩
     refine at_bn <| reg1 3 r <| mv r r r <| bn r r r r r <| asg r r r <| dn <| againI (n2, v12_1, (w64 (v16_1 + 1)), v3_1, v3_1_1, v3_1_2, (l1015_1 ++ [false]), _, _, _, _) r hy (Nat.lt_succ_self _) (.k r r (.k r r (.k r r (.k r r (.k r r (.k r r (.k r r .nil))))))) (.k r r (.k r r (.k r r (.k r r .nil))))
   ·replace hy := ifF hy h4
    refine at_exit <| at_te <| at_te <| at_inBlock <| ?_
    replace hy := sj hy
    subst hy
    refine metI (v3_1, v3_1_1, v3_1_2, l1015_1, _, _, _) r hc1 (.k r r (.k r r (.k r r .nil))) (.k r r (.k r r (.k r r .nil)))
  ·rintro ⟨v3_2, v3_2_1, v3_2_2, l1015_2, g2_1, g3_1, g1015_1⟩ cl hy
   subst hk1
   change At _ cl (mk _ _) _
   refine frzP (f := B) (l := l1015_2) 15 1015 r r pu_B <| reg 8 r <| ldw tk32 r r r r r r <| mv r r r <| ?_
   obtain ⟨r12, qr12, hy⟩ := bndI hy
   refine clp (w_r17_Mark qr12) ca27 r r (.cons (pu_Tw _) (.cons ((pu_l 1 pu_B) _) (.nil))) (.tup (.cons ((pu_l 1 (pu_l 1 pu_I)) _) (.cons (pu_I _) (.nil)))) r <| mv r r r <| ext r r r r <| ext r r r r <| asg r r r <| asg r r r <| dn <| reg 6 r <| ldw tk32 r r r r r r <| mv r r r <| mv r r r <| str tk32 r r r r r r r <| asg r r r <| asg r r r <| dn <| at_ret <| ?_
   replace hy := sj hy
   subst hy
   exact endZ [] (rs := [_, _, _]) r (by simp) (.inl r) (.cell _ _ _ _ _ _ _ _ _ _ _ _ _ r r r tk32 r (.tmp _ _ _ _ r (.tmp _ _ _ _ r .nil))) (by simp) (PuL.rn (xs := [(TwA (Tw.mk (Tw.mk v3_2 v3_2_1 v3_2_2).tokens (Tw.mk v3_2 v3_2_1 v3_2_2).heights (Tw.mk v3_2 v3_2_1 v3_2_2).next)), ((SL 1 (SL 1 I)) r12.1), (I r12.2)]) (.cons (pu_Tw _) (.cons ((pu_l 1 (pu_l 1 pu_I)) _) (.cons (pu_I _) (.nil)))))
end Go.Ar
namespace Go.Ar
open Go.RowKit
def p_cmp_isNaN_int (K : Nat) (a0 : Int) : Option Bool :=
 some (a0 != a0)
theorem w_cmp_isNaN_int {K : Nat} {a0 : Int} {y : Bool} (hy : p_cmp_isNaN_int K a0 = some y) : Does PP GV 85 [] [(I a0)] [] [] (B y) := by
 unfold p_cmp_isNaN_int at hy
 refine does_of at85 r (le_ok r) <| ?_
 rintro ⟨_, base, w0, F⟩ rfl
 refine reg 1 r <| asg r r r <| dn <| reg 4 r <| mv r r r <| mv r r r <| bn r r r r r <| asg r r r <| dn <| at_ret <| ?_
 replace hy := sj hy
 subst hy
 exact out1 r (.inl r) (look_of r) r (pu_B _)
def p_cmp_Compare_int (K : Nat) (a0 : Int) (a1 : Int) : Option Int :=
 ((p_cmp_isNaN_int K a0).bind fun r1 => ((p_cmp_isNaN_int K a1).bind fun r2 => (bif r1 then (bif r2 then some 0 else some (-1)) else (bif r2 then some 1 else (bif (decide (a0 < a1)) then some (-1) else (bif (decide (a0 > a1)) then some 1 else some 0))))))
theorem w_cmp_Compare_int {K : Nat} {a0 : Int} {a1 : Int} {y : Int} (hy : p_cmp_Compare_int K a0 a1 = some y) : Does PP GV 59 [] [(I a0), (I a1)] [] [] (I y) := by
 unfold p_cmp_Compare_int at hy
 refine does_of at59 r (le_ok r) <| ?_
 rintro ⟨_, base, w0, F⟩ rfl
 refine reg 1 r <| asg r r r <| dn <| reg 3 r <| mv r r r <| ?_
 obtain ⟨r1, qr1, hy⟩ := bndI hy
 refine clp (w_cmp_isNaN_int qr1) ca85 r r (.cons (pu_I _) (.nil)) (.one (pu_B _)) r <| asg r r r <| dn <| reg 3 r <| mv r r r <| ?_
 obtain ⟨r2, qr2, hy⟩ := bndI hy
 refine clp (w_cmp_isNaN_int qr2) ca85 r r (.cons (pu_I _) (.nil)) (.one (pu_B _)) r <| asg r r r <| dn <| at_seq <| reg 1 r <| mv r r r <| dn <| cd r (fun h1 => ?_) (fun h1 => ?_)
 ·replace hy := ifT hy h1
  refine at_seq <| reg 1 r <| mv r r r <| dn <| cd r (fun h2 => ?_) (fun h2 => ?_)
  ·replace hy := ifT hy h2
   refine reg 1 r <| asg r r r <| dn <| at_ret <| ?_
   replace hy := sj hy
   subst hy
   exact out1 r (.inl r) (look_of r) r (pu_I _)
  ·replace hy := ifF hy h2
   refine at_skip <| reg 1 r <| asg r r r <| dn <| at_ret <| ?_
   replace hy := sj hy
   subst hy
   exact out1 r (.inl r) (look_of r) r (pu_I _)
 ·replace hy := ifF hy h1
  refine at_skip <| at_seq <| reg 1 r <| mv r r r <| dn <| cd r (fun h2 => ?_) (fun h2 => ?_)
  ·replace hy := ifT hy h2
   refine reg 1 r <| asg r r r <| dn <| at_ret <| ?_
   replace hy := sj hy
   subst hy
   exact out1 r (.inl r) (look_of r) r (pu_I _)
  ·replace hy := ifF hy h2
   refine at_skip <| at_seq <| reg 3 r <| mv r r r <| mv r r r <| bn r r r r r <| dn <| cd r (fun h3 => ?_) (fun h3 => ?_)
   ·replace hy := ifT hy h3
    refine reg 1 r <| asg r r r <| dn <| at_ret <| ?_
    replace hy := sj hy
    subst hy
    exact out1 r (.inl r) (look_of r) r (pu_I _)
   ·replace hy := ifF hy h3
    refine at_skip <| at_seq <| reg 3 r <| mv r r r <| mv r r r <| bn r r r r r <| dn <| cd r (fun h4 => ?_) (fun h4 => ?_)
    ·replace hy := ifT hy h4
     refine reg 1 r <| asg r r r <| dn <| at_ret <| ?_
     replace hy := sj hy
     subst hy
     exact out1 r (.inl r) (look_of r) r (pu_I _)
    ·replace hy := ifF hy h4
     refine at_skip <| reg 1 r <| asg r r r <| dn <| at_ret <| ?_
     replace hy := sj hy
     subst hy
     exact out1 r (.inl r) (look_of r) r (pu_I _)
def p_cmp_Or_int_L1 (K : Nat) (a0 : (List Int)) : Nat → Int → Option (Sum Unit Int)
 | 0, _ => none
 | n+1, v8_1 => (bif (decide (v8_1 < (a0.length : Int))) then (ixP a0 v8_1 fun v2 => (bif (v2 != 0) then some (.inr v2) else p_cmp_Or_int_L1 K a0 n (w64 (v8_1 + 1)))) else some (.inl ()))
def p_cmp_Or_int (K : Nat) (a0 : (List Int)) : Option Int :=
 ((p_cmp_Or_int_L1 K a0 K 0 : Option (Sum Unit Int)).bind fun | .inl _ => some 0 | .inr r => some r)
theorem w_cmp_Or_int {K : Nat} {a0 : (List Int)} {y : Int} (hy : p_cmp_Or_int K a0 = some y) : Does PP GV 58 [] [((SL 1 I) a0)] [] [] (I y) := by
 unfold p_cmp_Or_int at hy
 refine does_of at58 r (le_ok r) <| ?_
 rintro ⟨_, base, w0, F⟩ rfl
 refine reg 1 r <| asg r r r <| dn <| reg 1 r <| asg r r r <| dn <| ?_
 obtain ⟨o1, hy, k1, hk1, hc1⟩ := bndK hy
 refine meetI (fun (p : Unit) => match p with | _ => mk [(3, (I 0))] []) (fun p => match p with | _ => k1 (.inl ()) = some y) ?_ ?_
 ·skip
  refine reg 3 r <| mv r r r <| lnf (f := I) slB29 r r r <| mv r r r <| dn <| at_block <| wk (T' := [(3, (I 0)), (6, ((SL 1 I) a0)), (7, (I (a0.length : Int))), (8, (I 0))]) (H' := []) (.k r r (.k r r (.k r r (.k r r .nil)))) .nil <| loopI (fun (p : Nat × Int) => match p with | (n2, v8_1) => mk [(3, (I 0)), (6, ((SL 1 I) a0)), (7, (I (a0.length : Int))), (8, (I v8_1))] []) (fun p => match p with | (n2, v8_1) => p_cmp_Or_int_L1 K a0 n2 v8_1 = some o1) (fun p => p.1) ?_ (K, 0) hy _
  rintro ⟨n2, v8_1⟩ cl hy
  cases n2 with | zero => cases hy | succ n2 => ?_
  change At _ cl (mk _ _) _
  replace hy : p_cmp_Or_int_L1 K a0 (n2+1) v8_1 = some o1 := hy
  rw [p_cmp_Or_int_L1] at hy
  refine reg 1 r <| bn r r r r r <| dn <| at_seq <| cd r (fun h3 => ?_) (fun h3 => ?_)
  ·replace hy := ifT hy h3
   refine at_skip <| at_seq <| at_block <| reg 3 r <| ?_
   obtain ⟨i1, v2, qi1, xv2, hy⟩ := ixI hy
   refine fixP (f := I) sl29 qi1 xv2 r r r r <| fld tk3 r r r r <| asg r r r <| dn <| reg 3 r <| mv r r r <| mv r r r <| bn r r r r r <| dn <| cd r (fun h4 => ?_) (fun h4 => ?_)
   ·replace hy := ifT hy h4
    refine reg 2 r <| mv r r r <| asg r r r <| dn <| at_ret <| ?_
    replace hy := sj hy
    subst hy
    subst hk1
    replace hc1 := Option.some.inj hc1
    subst hc1
    exact out1 r (.inl r) (look_of r) r (pu_I _)
   ·replace hy := ifF hy h4
    refine at_skip <| at_bn <| reg1 2 r <| bn r r r r r <| mv r r r <| dn <| againI (n2, (w64 (v8_1 + 1))) r hy (Nat.lt_succ_self _) (.k r r (.k r r (.k r r (.k r r .nil)))) .nil
  ·replace hy := ifF hy h3
   refine at_exit <| at_te <| at_te <| at_inBlock <| ?_
   replace hy := sj hy
   subst hy
   refine metI () r hc1 (.k r r .nil) .nil
 ·rintro ⟨⟩ cl hy
  subst hk1
  change At _ cl (mk _ _) _
  refine reg 2 r <| mv r r r <| asg r r r <| dn <| at_ret <| ?_
  replace hy := sj hy
  subst hy
  exact out1 r (.inl r) (look_of r) r (pu_I _)
def p_slices_IndexFunc_Sint_int_L1 (K : Nat) (a0 : (List Int)) (a1 : (Int → Option Bool)) : Nat → Int → Option (Sum Unit Int)
 | 0, _ => none
 | n+1, v8_1 => (bif (decide (v8_1 < (a0.length : Int))) then (ixP a0 v8_1 fun v2 => ((a1 v2).bind fun r3 => (bif r3 then some (.inr v8_1) else p_slices_IndexFunc_Sint_int_L1 K a0 a1 n (w64 (v8_1 + 1))))) else some (.inl ()))
def p_slices_IndexFunc_Sint_int (K : Nat) (a0 : (List Int)) (a1 : (Int → Option Bool)) : Option Int :=
 ((p_slices_IndexFunc_Sint_int_L1 K a0 a1 K 0 : Option (Sum Unit Int)).bind fun | .inl _ => some (-1) | .inr r => some r)
theorem w_slices_IndexFunc_Sint_int {K : Nat} {a0 : (List Int)} {a1 : (Int → Option Bool)} {y : Int} {a1f : FuncId} {a1s a1c : List AV} (a1h : ∀ {x0 : Int} {r : Bool}, a1 x0 = some r → Does PP GV a1f [] (a1s ++ [(I x0)] ++ a1c) [] [] (B r)) (a1k : callable PP a1f = true) (a1l : a1s.all flat = true ∧ a1c.all flat = true) (a1p : PuL a1s) (a1q : PuL a1c) (hy : p_slices_IndexFunc_Sint_int K a0 a1 = some y) : Does PP GV 68 [] [((SL 1 I) a0), .fn (.func a1f) a1s a1c] [] [] (I y) := by
 unfold p_slices_IndexFunc_Sint_int at hy
 refine does_of at68 r (le_ok r) <| ?_
 rintro ⟨_, base, w0, F⟩ rfl
 refine reg 1 r <| asg r r r <| dn <| ?_
 obtain ⟨o1, hy, k1, hk1, hc1⟩ := bndK hy
 refine meetI (fun (p : Unit) => match p with | _ => mk [] []) (fun p => match p with | _ => k1 (.inl ()) = some y) ?_ ?_
 ·skip
  refine reg 3 r <| mv r r r <| lnf (f := I) slB29 r r r <| mv r r r <| dn <| at_block <| wk (T' := [(0, ((SL 1 I) a0)), (1, .fn (.func a1f) a1s a1c), (7, (I (a0.length : Int))), (8, (I 0))]) (H' := []) (.k r r (.k r r (.k r r (.k r r .nil)))) .nil <| loopI (fun (p : Nat × Int) => match p with | (n2, v8_1) => mk [(0, ((SL 1 I) a0)), (1, .fn (.func a1f) a1s a1c), (7, (I (a0.length : Int))), (8, (I v8_1))] []) (fun p => match p with | (n2, v8_1) => p_slices_IndexFunc_Sint_int_L1 K a0 a1 n2 v8_1 = some o1) (fun p => p.1) ?_ (K, 0) hy _
  rintro ⟨n2, v8_1⟩ cl hy
  cases n2 with | zero => cases hy | succ n2 => ?_
  change At _ cl (mk _ _) _
  replace hy : p_slices_IndexFunc_Sint_int_L1 K a0 a1 (n2+1) v8_1 = some o1 := hy
  rw [p_slices_IndexFunc_Sint_int_L1] at hy
  refine reg 1 r <| bn r r r r r <| dn <| at_seq <| cd r (fun h3 => ?_) (fun h3 => ?_)
  ·replace hy := ifT hy h3
   refine at_skip <| at_seq <| at_block <| reg 2 r <| mv r r r <| asg r r r <| dn <| reg 6 r <| mv r r r <| mv r r r <| mv r r r <| ?_
   obtain ⟨i1, v2, qi1, xv2, hy⟩ := ixI hy
   refine fixP (f := I) sl29 qi1 xv2 r r r r <| fld tk3 r r r r <| ?_
   obtain ⟨r3, qr3, hy⟩ := bndI hy
   refine clv (a1h qr3) a1k r r r r a1l (puL3 a1p (.cons (pu_I _) (.nil)) a1q) (.one (pu_B _)) r <| dn <| cd r (fun h4 => ?_) (fun h4 => ?_)
   ·replace hy := ifT hy h4
    refine reg 2 r <| mv r r r <| asg r r r <| dn <| at_ret <| ?_
    replace hy := sj hy
    subst hy
    subst hk1
    replace hc1 := Option.some.inj hc1
    subst hc1
    exact out1 r (.inl r) (look_of r) r (pu_I _)
   ·replace hy := ifF hy h4
    refine at_skip <| at_bn <| reg1 2 r <| bn r r r r r <| mv r r r <| dn <| againI (n2, (w64 (v8_1 + 1))) r hy (Nat.lt_succ_self _) (.k r r (.k r r (.k r r (.k r r .nil)))) .nil
  ·replace hy := ifF hy h3
   refine at_exit <| at_te <| at_te <| at_inBlock <| ?_
   replace hy := sj hy
   subst hy
   refine metI () r hc1 .nil .nil
 ·rintro ⟨⟩ cl hy
  subst hk1
  change At _ cl (mk _ _) _
  refine reg 1 r <| asg r r r <| dn <| at_ret <| ?_
  replace hy := sj hy
  subst hy
  exact out1 r (.inl r) (look_of r) r (pu_I _)
def p_slices_ContainsFunc_Sint_int (K : Nat) (a0 : (List Int)) (a1 : (Int → Option Bool)) : Option Bool :=
 ((p_slices_IndexFunc_Sint_int K a0 a1).bind fun r1 => some (decide (r1 ≥ 0)))
theorem w_slices_ContainsFunc_Sint_int {K : Nat} {a0 : (List Int)} {a1 : (Int → Option Bool)} {y : Bool} {a1f : FuncId} {a1s a1c : List AV} (a1h : ∀ {x0 : Int} {r : Bool}, a1 x0 = some r → Does PP GV a1f [] (a1s ++ [(I x0)] ++ a1c) [] [] (B r)) (a1k : callable PP a1f = true) (a1l : a1s.all flat = true ∧ a1c.all flat = true) (a1p : PuL a1s) (a1q : PuL a1c) (hy : p_slices_ContainsFunc_Sint_int K a0 a1 = some y) : Does PP GV 40 [] [((SL 1 I) a0), .fn (.func a1f) a1s a1c] [] [] (B y) := by
 unfold p_slices_ContainsFunc_Sint_int at hy
 refine does_of at40 r (le_ok r) <| ?_
 rintro ⟨_, base, w0, F⟩ rfl
 refine reg 1 r <| asg r r r <| dn <| reg 5 r <| mv r r r <| mv r r r <| ?_
 obtain ⟨r1, qr1, hy⟩ := bndI hy
 refine clp (w_slices_IndexFunc_Sint_int (a1h := a1h) (a1k := a1k) (a1l := a1l) (a1p := a1p) (a1q := a1q) qr1) ca68 r r (.cons ((pu_l 1 pu_I) _) (.cons (pu_fn a1p a1q) (.nil))) (.one (pu_I _)) r <| bn r r r r r <| asg r r r <| dn <| at_ret <| ?_
 replace hy := sj hy
 subst hy
 exact out1 r (.inl r) (look_of r) r (pu_B _)
def p_slices_Index_Sint_int_L1 (K : Nat) (a0 : (List Int)) (a1 : Int) : Nat → Int → Option (Sum Unit Int)
 | 0, _ => none
 | n+1, v8_1 => (bif (decide (v8_1 < (a0.length : Int))) then (ixP a0 v8_1 fun v2 => (bif (a1 == v2) then some (.inr v8_1) else p_slices_Index_Sint_int_L1 K a0 a1 n (w64 (v8_1 + 1)))) else some (.inl ()))
def p_slices_Index_Sint_int (K : Nat) (a0 : (List Int)) (a1 : Int) : Option Int :=
 ((p_slices_Index_Sint_int_L1 K a0 a1 K 0 : Option (Sum Unit Int)).bind fun | .inl _ => some (-1) | .inr r => some r)
theorem w_slices_Index_Sint_int {K : Nat} {a0 : (List Int)} {a1 : Int} {y : Int} (hy : p_slices_Index_Sint_int K a0 a1 = some y) : Does PP GV 116 [] [((SL 1 I) a0), (I a1)] [] [] (I y) := by
 unfold p_slices_Index_Sint_int at hy
 refine does_of at116 r (le_ok r) <| ?_
 rintro ⟨_, base, w0, F⟩ rfl
 refine reg 1 r <| asg r r r <| dn <| ?_
 obtain ⟨o1, hy, k1, hk1, hc1⟩ := bndK hy
 refine meetI (fun (p : Unit) => match p with | _ => mk [] []) (fun p => match p with | _ => k1 (.inl ()) = some y) ?_ ?_
 ·skip
  refine reg 3 r <| mv r r r <| lnf (f := I) slB29 r r r <| mv r r r <| dn <| at_block <| wk (T' := [(0, ((SL 1 I) a0)), (1, (I a1)), (7, (I (a0.length : Int))), (8, (I 0))]) (H' := []) (.k r r (.k r r (.k r r (.k r r .nil)))) .nil <| loopI (fun (p : Nat × Int) => match p with | (n2, v8_1) => mk [(0, ((SL 1 I) a0)), (1, (I a1)), (7, (I (a0.length : Int))), (8, (I v8_1))] []) (fun p => match p with | (n2, v8_1) => p_slices_Index_Sint_int_L1 K a0 a1 n2 v8_1 = some o1) (fun p => p.1) ?_ (K, 0) hy _
  rintro ⟨n2, v8_1⟩ cl hy
  cases n2 with | zero => cases hy | succ n2 => ?_
  change At _ cl (mk _ _) _
  replace hy : p_slices_Index_Sint_int_L1 K a0 a1 (n2+1) v8_1 = some o1 := hy
  rw [p_slices_Index_Sint_int_L1] at hy
  refine reg 1 r <| bn r r r r r <| dn <| at_seq <| cd r (fun h3 => ?_) (fun h3 => ?_)
  ·replace hy := ifT hy h3
   refine at_skip <| at_seq <| at_block <| reg 2 r <| mv r r r <| asg r r r <| dn <| reg 6 r <| mv r r r <| mv r r r <| mv r r r <| ?_
   obtain ⟨i1, v2, qi1, xv2, hy⟩ := ixI hy
   refine fixP (f := I) sl29 qi1 xv2 r r r r <| fld tk3 r r r r <| bn r r r r r <| dn <| cd r (fun h4 => ?_) (fun h4 => ?_)
   ·replace hy := ifT hy h4
    refine reg 2 r <| mv r r r <| asg r r r <| dn <| at_ret <| ?_
    replace hy := sj hy
    subst hy
    subst hk1
    replace hc1 := Option.some.inj hc1
    subst hc1
    exact out1 r (.inl r) (look_of r) r (pu_I _)
   ·replace hy := ifF hy h4
    refine at_skip <| at_bn <| reg1 2 r <| bn r r r r r <| mv r r r <| dn <| againI (n2, (w64 (v8_1 + 1))) r hy (Nat.lt_succ_self _) (.k r r (.k r r (.k r r (.k r r .nil)))) .nil
  ·replace hy := ifF hy h3
   refine at_exit <| at_te <| at_te <| at_inBlock <| ?_
   replace hy := sj hy
   subst hy
   refine metI () r hc1 .nil .nil
 ·rintro ⟨⟩ cl hy
  subst hk1
  change At _ cl (mk _ _) _
  refine reg 1 r <| asg r r r <| dn <| at_ret <| ?_
  replace hy := sj hy
  subst hy
  exact out1 r (.inl r) (look_of r) r (pu_I _)
def p_slices_Contains_Sint_int (K : Nat) (a0 : (List Int)) (a1 : Int) : Option Bool :=
 ((p_slices_Index_Sint_int K a0 a1).bind fun r1 => some (decide (r1 ≥ 0)))
theorem w_slices_Contains_Sint_int {K : Nat} {a0 : (List Int)} {a1 : Int} {y : Bool} (hy : p_slices_Contains_Sint_int K a0 a1 = some y) : Does PP GV 96 [] [((SL 1 I) a0), (I a1)] [] [] (B y) := by
 unfold p_slices_Contains_Sint_int at hy
 refine does_of at96 r (le_ok r) <| ?_
 rintro ⟨_, base, w0, F⟩ rfl
 refine reg 1 r <| asg r r r <| dn <| reg 5 r <| mv r r r <| mv r r r <| ?_
 obtain ⟨r1, qr1, hy⟩ := bndI hy
 refine clp (w_slices_Index_Sint_int qr1) ca116 r r (.cons ((pu_l 1 pu_I) _) (.cons (pu_I _) (.nil))) (.one (pu_I _)) r <| bn r r r r r <| asg r r r <| dn <| at_ret <| ?_
 replace hy := sj hy
 subst hy
 exact out1 r (.inl r) (look_of r) r (pu_B _)
def p_slices_Equal_Sint_int_L1 (K : Nat) (a0 : (List Int)) (a1 : (List Int)) : Nat → Int → Option (Sum Unit Bool)
 | 0, _ => none
 | n+1, v13_1 => (bif (decide (v13_1 < (a0.length : Int))) then (ixP a0 v13_1 fun v2 => (ixP a1 v13_1 fun v4 => (bif (v2 != v4) then some (.inr false) else p_slices_Equal_Sint_int_L1 K a0 a1 n (w64 (v13_1 + 1))))) else some (.inl ()))
def p_slices_Equal_Sint_int (K : Nat) (a0 : (List Int)) (a1 : (List Int)) : Option Bool :=
 (bif ((a0.length : Int) != (a1.length : Int)) then some false else ((p_slices_Equal_Sint_int_L1 K a0 a1 K 0 : Option (Sum Unit Bool)).bind fun | .inl _ => some true | .inr r => some r))
theorem w_slices_Equal_Sint_int {K : Nat} {a0 : (List Int)} {a1 : (List Int)} {y : Bool} (hy : p_slices_Equal_Sint_int K a0 a1 = some y) : Does PP GV 117 [] [((SL 1 I) a0), ((SL 1 I) a1)] [] [] (B y) := by
 unfold p_slices_Equal_Sint_int at hy
 refine does_of at117 r (le_ok r) <| ?_
 rintro ⟨_, base, w0, F⟩ rfl
 refine reg 1 r <| asg r r r <| dn <| at_seq <| reg 5 r <| mv r r r <| lnf (f := I) slB29 r r r <| mv r r r <| lnf (f := I) slB29 r r r <| bn r r r r r <| dn <| cd r (fun h1 => ?_) (fun h1 => ?_)
 ·replace hy := ifT hy h1
  refine reg 1 r <| asg r r r <| dn <| at_ret <| ?_
  replace hy := sj hy
  subst hy
  exact out1 r (.inl r) (look_of r) r (pu_B _)
 ·replace hy := ifF hy h1
  refine at_skip <| ?_
  obtain ⟨o1, hy, k1, hk1, hc1⟩ := bndK hy
  refine meetI (fun (p : Unit) => match p with | _ => mk [] []) (fun p => match p with | _ => k1 (.inl ()) = some y) ?_ ?_
  ·skip
   refine reg 3 r <| mv r r r <| lnf (f := I) slB29 r r r <| mv r r r <| dn <| at_block <| wk (T' := [(0, ((SL 1 I) a0)), (1, ((SL 1 I) a1)), (12, (I (a0.length : Int))), (13, (I 0))]) (H' := []) (.k r r (.k r r (.k r r (.k r r .nil)))) .nil <| loopI (fun (p : Nat × Int) => match p with | (n2, v13_1) => mk [(0, ((SL 1 I) a0)), (1, ((SL 1 I) a1)), (12, (I (a0.length : Int))), (13, (I v13_1))] []) (fun p => match p with | (n2, v13_1) => p_slices_Equal_Sint_int_L1 K a0 a1 n2 v13_1 = some o1) (fun p => p.1) ?_ (K, 0) hy _
   rintro ⟨n2, v13_1⟩ cl hy
   cases n2 with | zero => cases hy | succ n2 => ?_
   change At _ cl (mk _ _) _
   replace hy : p_slices_Equal_Sint_int_L1 K a0 a1 (n2+1) v13_1 = some o1 := hy
   rw [p_slices_Equal_Sint_int_L1] at hy
   refine reg 1 r <| bn r r r r r <| dn <| at_seq <| cd r (fun h4 => ?_) (fun h4 => ?_)
   ·replace hy := ifT hy h4
    refine at_skip <| at_seq <| at_block <| reg 2 r <| mv r r r <| asg r r r <| dn <| regd mixed 9 r <| mv r r r <| mv r r r <| ?_
    obtain ⟨i1, v2, qi1, xv2, hy⟩ := ixI hy
    refine fixP (f := I) sl29 qi1 xv2 r r r r <| fld tk3 r r r r <| mv r r r <| mv r r r <| ?_
    obtain ⟨i3, v4, qi3, xv4, hy⟩ := ixI hy
    refine fixP (f := I) sl29 qi3 xv4 r r r r <| fld tk3 r r r r <| bn r r r r r <| dn ⟨by kernel_rfl, ?_⟩
    refine cd r (fun h5 => ?_) (fun h5 => ?_)
    ·replace hy := ifT hy h5
     refine reg 1 r <| asg r r r <| dn <| at_ret <| ?_
     replace hy := sj hy
     subst hy
     subst hk1
     replace hc1 := Option.some.inj hc1
     subst hc1
     exact out1 r (.inl r) (look_of r) r (pu_B _)
    ·replace hy := ifF hy h5
     refine at_skip <| at_bn <| reg1 2 r <| bn r r r r r <| mv r r r <| dn <| againI (n2, (w64 (v13_1 + 1))) r hy (Nat.lt_succ_self _) (.k r r (.k r r (.k r r (.k r r .nil)))) .nil
   ·replace hy := ifF hy h4
    refine at_exit <| at_te <| at_te <| at_inBlock <| ?_
    replace hy := sj hy
    subst hy
    refine metI () r hc1 .nil .nil
  ·rintro ⟨⟩ cl hy
   subst hk1
   change At _ cl (mk _ _) _
   refine reg 1 r <| asg r r r <| dn <| at_ret <| ?_
   replace hy := sj hy
   subst hy
   exact out1 r (.inl r) (look_of r) r (pu_B _)
def p_slices_EqualFunc_SSint_SSint_Sint_Sint_L1 (K : Nat) (a0 : (List (List Int))) (a1 : (List (List Int))) (a2 : ((List Int) → (List Int) → Option Bool)) : Nat → Int → Option (Sum Unit Bool)
 | 0, _ => none
 | n+1, v17_1 => (bif (decide (v17_1 < (a0.length : Int))) then (ixP a0 v17_1 fun v2 => (ixP a1 v17_1 fun v4 => ((a2 v2 v4).bind fun r5 => (bif (!r5) then some (.inr false) else p_slices_EqualFunc_SSint_SSint_Sint_Sint_L1 K a0 a1 a2 n (w64 (v17_1 + 1)))))) else some (.inl ()))
def p_slices_EqualFunc_SSint_SSint_Sint_Sint (K : Nat) (a0 : (List (List Int))) (a1 : (List (List Int))) (a2 : ((List Int) → (List Int) → Option Bool)) : Option Bool :=
 (bif ((a0.length : Int) != (a1.length : Int)) then some false else ((p_slices_EqualFunc_SSint_SSint_Sint_Sint_L1 K a0 a1 a2 K 0 : Option (Sum Unit Bool)).bind fun | .inl _ => some true | .inr r => some r))
theorem w_slices_EqualFunc_SSint_SSint_Sint_Sint {K : Nat} {a0 : (List (List Int))} {a1 : (List (List Int))} {a2 : ((List Int) → (List Int) → Option Bool)} {y : Bool} {a2f : FuncId} {a2s a2c : List AV} (a2h : ∀ {x0 : (List Int)} {x1 : (List Int)} {r : Bool}, a2 x0 x1 = some r → Does PP GV a2f [] (a2s ++ [((SL 1 I) x0), ((SL 1 I) x1)] ++ a2c) [] [] (B r)) (a2k : callable PP a2f = true) (a2l : a2s.all flat = true ∧ a2c.all flat = true) (a2p : PuL a2s) (a2q : PuL a2c) (hy : p_slices_EqualFunc_SSint_SSint_Sint_Sint K a0 a1 a2 = some y) : Does PP GV 118 [] [((SL 1 (SL 1 I)) a0), ((SL 1 (SL 1 I)) a1), .fn (.func a2f) a2s a2c] [] [] (B y) := by
 unfold p_slices_EqualFunc_SSint_SSint_Sint_Sint at hy
 refine does_of at118 r (le_ok r) <| ?_
 rintro ⟨_, base, w0, F⟩ rfl
 refine reg 1 r <| asg r r r <| dn <| at_seq <| reg 5 r <| mv r r r <| lnf (f := (SL 1 I)) slB30 r r r <| mv r r r <| lnf (f := (SL 1 I)) slB30 r r r <| bn r r r r r <| dn <| cd r (fun h1 => ?_) (fun h1 => ?_)
 ·replace hy := ifT hy h1
  refine reg 1 r <| asg r r r <| dn <| at_ret <| ?_
  replace hy := sj hy
  subst hy
  exact out1 r (.inl r) (look_of r) r (pu_B _)
 ·replace hy := ifF hy h1
  refine at_skip <| ?_
  obtain ⟨o1, hy, k1, hk1, hc1⟩ := bndK hy
  refine meetI (fun (p : Unit) => match p with | _ => mk [] []) (fun p => match p with | _ => k1 (.inl ()) = some y) ?_ ?_
  ·skip
   refine reg 3 r <| mv r r r <| lnf (f := (SL 1 I)) slB30 r r r <| mv r r r <| dn <| at_block <| wk (T' := [(1, ((SL 1 (SL 1 I)) a1)), (2, .fn (.func a2f) a2s a2c), (15, ((SL 1 (SL 1 I)) a0)), (16, (I (a0.length : Int))), (17, (I 0))]) (H' := []) (.k r r (.k r r (.k r r (.k r r (.k r r .nil))))) .nil <| loopI (fun (p : Nat × Int) => match p with | (n2, v17_1) => mk [(1, ((SL 1 (SL 1 I)) a1)), (2, .fn (.func a2f) a2s a2c), (15, ((SL 1 (SL 1 I)) a0)), (16, (I (a0.length : Int))), (17, (I v17_1))] []) (fun p => match p with | (n2, v17_1) => p_slices_EqualFunc_SSint_SSint_Sint_Sint_L1 K a0 a1 a2 n2 v17_1 = some o1) (fun p => p.1) ?_ (K, 0) hy _
   rintro ⟨n2, v17_1⟩ cl hy
   cases n2 with | zero => cases hy | succ n2 => ?_
   change At _ cl (mk _ _) _
   replace hy : p_slices_EqualFunc_SSint_SSint_Sint_Sint_L1 K a0 a1 a2 (n2+1) v17_1 = some o1 := hy
   rw [p_slices_EqualFunc_SSint_SSint_Sint_Sint_L1] at hy
   refine reg 1 r <| bn r r r r r <| dn <| at_seq <| cd r (fun h4 => ?_) (fun h4 => ?_)
   ·replace hy := ifT hy h4
    refine at_skip <| at_seq <| at_block <| reg 5 r <| mv r r r <| ?_
    obtain ⟨i1, v2, qi1, xv2, hy⟩ := ixI hy
    refine fixP (f := (SL 1 I)) sl30 qi1 xv2 r r r r <| fld tk29 r r r r <| asg r r r <| asg r r r <| dn <| reg 5 r <| mv r r r <| mv r r r <| ?_
    obtain ⟨i3, v4, qi3, xv4, hy⟩ := ixI hy
    refine fixP (f := (SL 1 I)) sl30 qi3 xv4 r r r r <| fld tk29 r r r r <| asg r r r <| dn <| reg 5 r <| mv r r r <| mv r r r <| mv r r r <| ?_
    obtain ⟨r5, qr5, hy⟩ := bndI hy
    refine clv (a2h qr5) a2k r r r r a2l (puL3 a2p (.cons ((pu_l 1 pu_I) _) (.cons ((pu_l 1 pu_I) _) (.nil))) a2q) (.one (pu_B _)) r <| nt r r r <| dn <| cd r (fun h5 => ?_) (fun h5 => ?_)
    ·replace hy := ifT hy h5
     refine reg 1 r <| asg r r r <| dn <| at_ret <| ?_
     replace hy := sj hy
     subst hy
     subst hk1
     replace hc1 := Option.some.inj hc1
     subst hc1
     exact out1 r (.inl r) (look_of r) r (pu_B _)
    ·replace hy := ifF hy h5
     refine at_skip <| at_bn <| reg1 2 r <| bn r r r r r <| mv r r r <| dn <| againI (n2, (w64 (v17_1 + 1))) r hy (Nat.lt_succ_self _) (.k r r (.k r r (.k r r (.k r r (.k r r .nil))))) .nil
   ·replace hy := ifF hy h4
    refine at_exit <| at_te <| at_te <| at_inBlock <| ?_
    replace hy := sj hy
    subst hy
    refine metI () r hc1 .nil .nil
  ·rintro ⟨⟩ cl hy
   subst hk1
   change At _ cl (mk _ _) _
   refine reg 1 r <| asg r r r <| dn <| at_ret <| ?_
   replace hy := sj hy
   subst hy
   exact out1 r (.inl r) (look_of r) r (pu_B _)
def p_slices_Min_Sint_int_L1 (K : Nat) (a0 : (List Int)) : Nat → Int → Int → Option Int
 | 0, _, _ => none
 | n+1, v3_2, v4_2 => (bif (decide (v4_2 < (a0.length : Int))) then (ixP a0 v4_2 fun v4 => p_slices_Min_Sint_int_L1 K a0 n (if v4 < v3_2 then v4 else v3_2) (w64 (v4_2 + 1))) else some v3_2)
def p_slices_Min_Sint_int (K : Nat) (a0 : (List Int)) : Option Int :=
 (((bif (decide ((a0.length : Int) < 1)) then none else some ()) : Option Unit).bind fun _ => (ixP a0 0 fun v2 => ((p_slices_Min_Sint_int_L1 K a0 K v2 1 : Option Int).bind fun v3_3 => some v3_3)))
theorem w_slices_Min_Sint_int {K : Nat} {a0 : (List Int)} {y : Int} (hy : p_slices_Min_Sint_int K a0 = some y) : Does PP GV 92 [] [((SL 1 I) a0)] [] [] (I y) := by
 unfold p_slices_Min_Sint_int at hy
 refine does_of at92 r (le_ok r) <| ?_
 rintro ⟨_, base, w0, F⟩ rfl
 refine reg 1 r <| asg r r r <| dn <| ?_
 obtain ⟨o1, hy, k1, hk1, hc1⟩ := bndK hy
 refine meetI (fun (p : Unit) => match p with | _ => mk [(0, ((SL 1 I) a0))] []) (fun p => match p with | _ => k1 () = some y) ?_ ?_
 ·skip
  refine reg 3 r <| mv r r r <| lnf (f := I) slB29 r r r <| bn r r r r r <| dn <| cd r (fun h2 => ?_) (fun h2 => ?_)
  ·replace hy := ifT hy h2
   refine reg1 2 r <| ?_
   cases hy
  ·replace hy := ifF hy h2
   refine at_skip <| ?_
   replace hy := sj hy
   subst hy
   refine metI () r hc1 (.k r r .nil) .nil
 ·rintro ⟨⟩ cl hy
  subst hk1
  change At _ cl (mk _ _) _
  refine reg 4 r <| mv r r r <| ?_
  obtain ⟨i1, v2, qi1, xv2, hy⟩ := ixI hy
  refine fixP (f := I) sl29 qi1 xv2 r r r r <| fld tk3 r r r r <| asg r r r <| dn <| ?_
  obtain ⟨o2, hy, k2, hk2, hc2⟩ := bndK hy
  refine meetI (fun (p : Int) => match p with | v3_3 => mk [(3, (I v3_3))] []) (fun p => match p with | v3_3 => k2 v3_3 = some y) ?_ ?_
  ·skip
   refine reg 1 r <| asg r r r <| dn <| at_block <| wk (T' := [(0, ((SL 1 I) a0)), (3, (I v2)), (4, (I 1))]) (H' := []) (.k r r (.k r r (.k r r .nil))) .nil <| loopI (fun (p : Nat × Int × Int) => match p with | (n3, v3_2, v4_2) => mk [(0, ((SL 1 I) a0)), (3, (I v3_2)), (4, (I v4_2))] []) (fun p => match p with | (n3, v3_2, v4_2) => p_slices_Min_Sint_int_L1 K a0 n3 v3_2 v4_2 = some o2) (fun p => p.1) ?_ (K, v2, 1) hy _
   rintro ⟨n3, v3_2, v4_2⟩ cl hy
   cases n3 with | zero => cases hy | succ n3 => ?_
   change At _ cl (mk _ _) _
   replace hy : p_slices_Min_Sint_int_L1 K a0 (n3+1) v3_2 v4_2 = some o2 := hy
   rw [p_slices_Min_Sint_int_L1] at hy
   refine at_seq <| reg 4 r <| mv r r r <| mv r r r <| lnf (f := I) slB29 r r r <| bn r r r r r <| dn <| cd r (fun h4 => ?_) (fun h4 => ?_)
   ·replace hy := ifT hy h4
    refine at_skip <| at_seq <| at_block <| reg1 7 r <| mv r r r <| mv r r r <| mv r r r <| ?_
    obtain ⟨i3, v4, qi3, xv4, hy⟩ := ixI hy
    refine fixP (f := I) sl29 qi3 xv4 r r r r <| fld tk3 r r r r <| rg_min (gd_of r) (ev_of r) (ev_of r) (lt_ok r) <| asg r r r <| dn <| at_bn <| reg1 3 r <| mv r r r <| bn r r r r r <| asg r r r <| dn <| againI (n3, (if v4 < v3_2 then v4 else v3_2), (w64 (v4_2 + 1))) r hy (Nat.lt_succ_self _) (.k r r (.k r r (.k r r .nil))) .nil
   ·replace hy := ifF hy h4
    refine at_exit <| at_te <| at_te <| at_inBlock <| ?_
    replace hy := sj hy
    subst hy
    refine metI v3_2 r hc2 (.k r r .nil) .nil
  ·rintro v3_3 cl hy
   subst hk2
   change At _ cl (mk _ _) _
   refine reg 2 r <| mv r r r <| asg r r r <| dn <| at_ret <| ?_
   replace hy := sj hy
   subst hy
   exact out1 r (.inl r) (look_of r) r (pu_I _)
def p_tour_place_1 (K : Nat) (a0 : (List Int)) (a1 : Int) : Option Bool :=
 ((p_slices_Contains_Sint_int K a0 a1).bind fun r1 => some r1)
theorem w_tour_place_1 {K : Nat} {a0 : (List Int)} {a1 : Int} {y : Bool} (hy : p_tour_place_1 K a0 a1 = some y) : Does PP GV 95 [] [((SL 1 I) a0), ((FP I) a1)] [] [] (B y) := by
 unfold p_tour_place_1 at hy
 refine does_of at95 r (le_ok r) <| ?_
 rintro ⟨_, base, w0, F⟩ rfl
 refine reg 1 r <| asg r r r <| dn <| reg 4 r <| mv r r r <| fld tk3 r r r r <| ?_
 obtain ⟨r1, qr1, hy⟩ := bndI hy
 refine clp (w_slices_Contains_Sint_int qr1) ca96 r r (.cons ((pu_l 1 pu_I) _) (.cons (pu_I _) (.nil))) (.one (pu_B _)) r <| asg r r r <| dn <| at_ret <| ?_
 replace hy := sj hy
 subst hy
 exact out1 r (.inl r) (look_of r) r (pu_B _)
def p_slices_IndexFunc_SSint_Sint_L1 (K : Nat) (a0 : (List (List Int))) (a1 : ((List Int) → Option Bool)) : Nat → Int → Option (Sum Unit Int)
 | 0, _ => none
 | n+1, v8_1 => (bif (decide (v8_1 < (a0.length : Int))) then (ixP a0 v8_1 fun v2 => ((a1 v2).bind fun r3 => (bif r3 then some (.inr v8_1) else p_slices_IndexFunc_SSint_Sint_L1 K a0 a1 n (w64 (v8_1 + 1))))) else some (.inl ()))
def p_slices_IndexFunc_SSint_Sint (K : Nat) (a0 : (List (List Int))) (a1 : ((List Int) → Option Bool)) : Option Int :=
 ((p_slices_IndexFunc_SSint_Sint_L1 K a0 a1 K 0 : Option (Sum Unit Int)).bind fun | .inl _ => some (-1) | .inr r => some r)
theorem w_slices_IndexFunc_SSint_Sint {K : Nat} {a0 : (List (List Int))} {a1 : ((List Int) → Option Bool)} {y : Int} {a1f : FuncId} {a1s a1c : List AV} (a1h : ∀ {x0 : (List Int)} {r : Bool}, a1 x0 = some r → Does PP GV a1f [] (a1s ++ [((SL 1 I) x0)] ++ a1c) [] [] (B r)) (a1k : callable PP a1f = true) (a1l : a1s.all flat = true ∧ a1c.all flat = true) (a1p : PuL a1s) (a1q : PuL a1c) (hy : p_slices_IndexFunc_SSint_Sint K a0 a1 = some y) : Does PP GV 94 [] [((SL 1 (SL 1 I)) a0), .fn (.func a1f) a1s a1c] [] [] (I y) := by
 unfold p_slices_IndexFunc_SSint_Sint at hy
 refine does_of at94 r (le_ok r) <| ?_
 rintro ⟨_, base, w0, F⟩ rfl
 refine reg 1 r <| asg r r r <| dn <| ?_
 obtain ⟨o1, hy, k1, hk1, hc1⟩ := bndK hy
 refine meetI (fun (p : Unit) => match p with | _ => mk [] []) (fun p => match p with | _ => k1 (.inl ()) = some y) ?_ ?_
 ·skip
  refine reg 3 r <| mv r r r <| lnf (f := (SL 1 I)) slB30 r r r <| mv r r r <| dn <| at_block <| wk (T' := [(0, ((SL 1 (SL 1 I)) a0)), (1, .fn (.func a1f) a1s a1c), (7, (I (a0.length : Int))), (8, (I 0))]) (H' := []) (.k r r (.k r r (.k r r (.k r r .nil)))) .nil <| loopI (fun (p : Nat × Int) => match p with | (n2, v8_1) => mk [(0, ((SL 1 (SL 1 I)) a0)), (1, .fn (.func a1f) a1s a1c), (7, (I (a0.length : Int))), (8, (I v8_1))] []) (fun p => match p with | (n2, v8_1) => p_slices_IndexFunc_SSint_Sint_L1 K a0 a1 n2 v8_1 = some o1) (fun p => p.1) ?_ (K, 0) hy _
  rintro ⟨n2, v8_1⟩ cl hy
  cases n2 with | zero => cases hy | succ n2 => ?_
  change At _ cl (mk _ _) _
  replace hy : p_slices_IndexFunc_SSint_Sint_L1 K a0 a1 (n2+1) v8_1 = some o1 := hy
  rw [p_slices_IndexFunc_SSint_Sint_L1] at hy
  refine reg 1 r <| bn r r r r r <| dn <| at_seq <| cd r (fun h3 => ?_) (fun h3 => ?_)
  ·replace hy := ifT hy h3
   refine at_skip <| at_seq <| at_block <| reg 2 r <| mv r r r <| asg r r r <| dn <| reg 6 r <| mv r r r <| mv r r r <| mv r r r <| ?_
   obtain ⟨i1, v2, qi1, xv2, hy⟩ := ixI hy
   refine fixP (f := (SL 1 I)) sl30 qi1 xv2 r r r r <| fld tk29 r r r r <| ?_
   obtain ⟨r3, qr3, hy⟩ := bndI hy
   refine clv (a1h qr3) a1k r r r r a1l (puL3 a1p (.cons ((pu_l 1 pu_I) _) (.nil)) a1q) (.one (pu_B _)) r <| dn <| cd r (fun h4 => ?_) (fun h4 => ?_)
   ·replace hy := ifT hy h4
    refine reg 2 r <| mv r r r <| asg r r r <| dn <| at_ret <| ?_
    replace hy := sj hy
    subst hy
    subst hk1
    replace hc1 := Option.some.inj hc1
    subst hc1
    exact out1 r (.inl r) (look_of r) r (pu_I _)
   ·replace hy := ifF hy h4
    refine at_skip <| at_bn <| reg1 2 r <| bn r r r r r <| mv r r r <| dn <| againI (n2, (w64 (v8_1 + 1))) r hy (Nat.lt_succ_self _) (.k r r (.k r r (.k r r (.k r r .nil)))) .nil
  ·replace hy := ifF hy h3
   refine at_exit <| at_te <| at_te <| at_inBlock <| ?_
   replace hy := sj hy
   subst hy
   refine metI () r hc1 .nil .nil
 ·rintro ⟨⟩ cl hy
  subst hk1
  change At _ cl (mk _ _) _
  refine reg 1 r <| asg r r r <| dn <| at_ret <| ?_
  replace hy := sj hy
  subst hy
  exact out1 r (.inl r) (look_of r) r (pu_I _)
def p_slices_IndexFunc_Sapi_Edge_api_Edge_L1 (K : Nat) (a0 : (List Ed)) (a1 : (Ed → Option Bool)) : Nat → Int → Option (Sum Unit Int)
 | 0, _ => none
 | n+1, v8_1 => (bif (decide (v8_1 < (a0.length : Int))) then (ixP a0 v8_1 fun v2 => ((a1 v2).bind fun r3 => (bif r3 then some (.inr v8_1) else p_slices_IndexFunc_Sapi_Edge_api_Edge_L1 K a0 a1 n (w64 (v8_1 + 1))))) else some (.inl ()))
def p_slices_IndexFunc_Sapi_Edge_api_Edge (K : Nat) (a0 : (List Ed)) (a1 : (Ed → Option Bool)) : Option Int :=
 ((p_slices_IndexFunc_Sapi_Edge_api_Edge_L1 K a0 a1 K 0 : Option (Sum Unit Int)).bind fun | .inl _ => some (-1) | .inr r => some r)
theorem w_slices_IndexFunc_Sapi_Edge_api_Edge {K : Nat} {a0 : (List Ed)} {a1 : (Ed → Option Bool)} {y : Int} {a1f : FuncId} {a1s a1c : List AV} (a1h : ∀ {x0 : Ed} {r : Bool}, a1 x0 = some r → Does PP GV a1f [] (a1s ++ [(EdA x0)] ++ a1c) [] [] (B r)) (a1k : callable PP a1f = true) (a1l : a1s.all flat = true ∧ a1c.all flat = true) (a1p : PuL a1s) (a1q : PuL a1c) (hy : p_slices_IndexFunc_Sapi_Edge_api_Edge K a0 a1 = some y) : Does PP GV 31 [] [((SL 2 EdA) a0), .fn (.func a1f) a1s a1c] [] [] (I y) := by
 unfold p_slices_IndexFunc_Sapi_Edge_api_Edge at hy
 refine does_of at31 r (le_ok r) <| ?_
 rintro ⟨_, base, w0, F⟩ rfl
 refine reg 1 r <| asg r r r <| dn <| ?_
 obtain ⟨o1, hy, k1, hk1, hc1⟩ := bndK hy
 refine meetI (fun (p : Unit) => match p with | _ => mk [] []) (fun p => match p with | _ => k1 (.inl ()) = some y) ?_ ?_
 ·skip
  refine reg 3 r <| mv r r r <| lnf (f := EdA) slB41 r r r <| mv r r r <| dn <| at_block <| wk (T' := [(0, ((SL 2 EdA) a0)), (1, .fn (.func a1f) a1s a1c), (7, (I (a0.length : Int))), (8, (I 0))]) (H' := []) (.k r r (.k r r (.k r r (.k r r .nil)))) .nil <| loopI (fun (p : Nat × Int) => match p with | (n2, v8_1) => mk [(0, ((SL 2 EdA) a0)), (1, .fn (.func a1f) a1s a1c), (7, (I (a0.length : Int))), (8, (I v8_1))] []) (fun p => match p with | (n2, v8_1) => p_slices_IndexFunc_Sapi_Edge_api_Edge_L1 K a0 a1 n2 v8_1 = some o1) (fun p => p.1) ?_ (K, 0) hy _
  rintro ⟨n2, v8_1⟩ cl hy
  cases n2 with | zero => cases hy | succ n2 => ?_
  change At _ cl (mk _ _) _
  replace hy : p_slices_IndexFunc_Sapi_Edge_api_Edge_L1 K a0 a1 (n2+1) v8_1 = some o1 := hy
  rw [p_slices_IndexFunc_Sapi_Edge_api_Edge_L1] at hy
  refine reg 1 r <| bn r r r r r <| dn <| at_seq <| cd r (fun h3 => ?_) (fun h3 => ?_)
  ·replace hy := ifT hy h3
   refine at_skip <| at_seq <| at_block <| reg 2 r <| mv r r r <| asg r r r <| dn <| reg 6 r <| mv r r r <| mv r r r <| mv r r r <| ?_
   obtain ⟨i1, v2, qi1, xv2, hy⟩ := ixI hy
   refine fixP (f := EdA) sl41 qi1 xv2 r r r r <| fldw tk47 r r r r <| ?_
   obtain ⟨r3, qr3, hy⟩ := bndI hy
   refine clv (a1h qr3) a1k r r r r a1l (puL3 a1p (.cons (pu_Ed _) (.nil)) a1q) (.one (pu_B _)) r <| dn <| cd r (fun h4 => ?_) (fun h4 => ?_)
   ·replace hy := ifT hy h4
    refine reg 2 r <| mv r r r <| asg r r r <| dn <| at_ret <| ?_
    replace hy := sj hy
    subst hy
    subst hk1
    replace hc1 := Option.some.inj hc1
    subst hc1
    exact out1 r (.inl r) (look_of r) r (pu_I _)
   ·replace hy := ifF hy h4
    refine at_skip <| at_bn <| reg1 2 r <| bn r r r r r <| mv r r r <| dn <| againI (n2, (w64 (v8_1 + 1))) r hy (Nat.lt_succ_self _) (.k r r (.k r r (.k r r (.k r r .nil)))) .nil
  ·replace hy := ifF hy h3
   refine at_exit <| at_te <| at_te <| at_inBlock <| ?_
   replace hy := sj hy
   subst hy
   refine metI () r hc1 .nil .nil
 ·rintro ⟨⟩ cl hy
  subst hk1
  change At _ cl (mk _ _) _
  refine reg 1 r <| asg r r r <| dn <| at_ret <| ?_
  replace hy := sj hy
  subst hy
  exact out1 r (.inl r) (look_of r) r (pu_I _)
end Go.Ar
