import Derived.ReadAgain
import Derived.ChangeArms
import Derived.OpenShut
import Derived.Deep.Slices
import Derived.Lib.SmallJoins
import Derived.Lib.LaidTab
import Derived.ProofKit
import Derived.Deep.DeepHandedRow
import Derived.Test.YteefcelbbenmdaaGreatDoorA03
set_option linter.all false
namespace Go.Ar
open Go.RowKit
def p_ca (K:Nat)  : Nat→(List Int)→Int→Int→(Mp Int Int)→Option ((List Int) × (Mp Int Int))
 | 0,_,_,_,_=>none
 | n+1,v52_1,v53_1,v54_1,m3_1=>(bif (decide (v54_1 < v53_1)) then (ixP v52_1 v54_1 fun v6=>p_ca K  n v52_1 v53_1 (w64 (v54_1+1)) (m3_1.set v6 1)) else some (v52_1,m3_1))
def p_H (K:Nat)  : Nat→(List Int)→Int→Int→Int→Int→Bool→(Mp Int (List Ed))→Option (Mp Int (List Ed))
 | 0,_,_,_,_,_,_,_=>none
 | n+1,v83_3,v84_3,v6_3,v6_3_1,v6_3_2,v6_3_3,m4_3=>(bif (decide (v84_3 < 2)) then (bdP 2 v84_3 fun i9=>gtP v83_3 i9 fun v10=>(rowP (m4_3.get? v10) (fun r11=>(apP 16 r11.length [(Ed.mk v6_3 v6_3_1)].length (p_H K  n v83_3 (w64 (v84_3+1)) v6_3 v6_3_1 v6_3_2 v6_3_3 (m4_3.set v10 (r11++[(Ed.mk v6_3 v6_3_1)]))))) ((apP 16 0 [(Ed.mk v6_3 v6_3_1)].length (p_H K  n v83_3 (w64 (v84_3+1)) v6_3 v6_3_1 v6_3_2 v6_3_3 (m4_3.set v10 [(Ed.mk v6_3 v6_3_1)])))))) else some m4_3)
def p_i (K:Nat) (a0:Gr) (a2:Int):Nat→Int→(Mp Int (List Ed))→Option (Mp Int (List Ed))
 | 0,_,_=>none
 | n+1,v67_5,m4_5=>(bif (decide (v67_5 < (a0.ties.length:Int))) then (((ixP a0.ties v67_5 fun v8=>(bif v8.tree then some m4_5 else (bif (v8.level != a2) then some m4_5 else p_H K  K [v8.u,v8.v] 0 v8.u v8.v v8.level v8.tree m4_5))):Option (Mp Int (List Ed))).bind fun m4_4=>p_i K a0 a2 n (w64 (v67_5+1)) m4_4) else some m4_5)
def p_X (K:Nat) (a0:Gr) (a1:Int) (a2:Int):Option ((Option Seek_tree_) × Int) :=
 ((p_do K a0 a2).bind fun r1=>(bif (r1.2 != 0) then some (none,r1.2) else (bif (decide (a1 < 0)) then some (none,10) else (bif (decide (a1≥a0.n)) then some (none,10) else ((p_fE K r1.1 a1).bind fun r2=>(ixP r1.1.rings r2 fun v4=>((p_ca K  K v4 (v4.length:Int) 0 (Mp.empty:(Mp Int Int)):Option ((List Int) × (Mp Int Int))).bind fun (v5_2,m3_2)=>((p_i K a0 a2 K 0 (Mp.empty:(Mp Int (List Ed))):Option (Mp Int (List Ed))).bind fun m4_6=>some ((some (Seek_tree_.mk a0.n v5_2 m3_2 m4_6)),0)))))))))
theorem w_fz {K:Nat}{a0:Gr}{a1:Int}{a2:Int}{y:((Option Seek_tree_) × Int)} (hy:p_X K a0 a1 a2=some y):Does PP GV 17 [] [(GrA a0),(I a1),(I a2)] [] [] (.tup [((PO Seek_tree_A) y.1),(I y.2)]):=by
 unfold p_X at hy
 refine does_of at17 r (le_ok r)<|?_
 rintro ⟨_,base,w0,F⟩ rfl
 refine reg 3 r<|bx 1 r r r r<|go 2 r<|dn<|reg 9 r<|ldw tk24 r r r r r r<|go 1 r<|bndH hy fun r1 qr1 hy=>clc (w_gM qr1) ca35 r r r<|go 3 r<|rg_alloc (s:=2) (gd_of r) zc81 (elems_one (by rfl)) (lt_ok r)<|str tk81 r r r r r r r<|go 1 r<|dn<|at_seq<|at_block<|rg r<|cdH r hy (fun hy=>?_) fun hy=>?_
 ·refine rg r<|at_ret<|?_
  obtain rfl:=sj hy
  exact outs (rs:=[6,7]) (res2 r) (by simp) (.inl r) (looks_of r) r (.cons ((pu_po pu_Seek_tree_) _) (.cons (pu_I _) (.nil)))
 ·refine reg 9 r<|go 3 r<|casH 30 r hy (fun hy=>?_) fun hy=>?_
  ·refine go 6 r<|dn<|cdt r<|rg r<|at_ret<|?_
   obtain rfl:=sj hy
   exact outs (rs:=[6,7]) (res2 r) (by simp) (.inl r) (looks_of r) r (.cons ((pu_po pu_Seek_tree_) _) (.cons (pu_I _) (.nil)))
  ·refine go 1 r<|fa fo24_0 r r r<|ld tk3 r r r r r r<|go 3 r<|dn<|cdH r hy (fun hy=>?_) fun hy=>?_
   ·refine rg r<|at_ret<|?_
    obtain rfl:=sj hy
    exact outs (rs:=[6,7]) (res2 r) (by simp) (.inl r) (looks_of r) r (.cons ((pu_po pu_Seek_tree_) _) (.cons (pu_I _) (.nil)))
   ·refine at_skip<|at_bn<|regd mixed 14 r<|fa fo24_0 r r r<|ld tk3 r r r r r r<|fa fo81_1 r r r<|ld tk30 r r r r r r<|ldw tk81 r r r r r r<|go 1 r<|bndH hy fun r2 qr2 hy=>clc (w_hk qr2) ca36 r r r<|ixH hy fun i3 v4 qi3 xv4 hy=>fixP (f:=(SL 1 I)) sl30 qi3 xv4 r r r r<|fld tk29 r r r r<|mkM (κ:=Int) (ν:=Int) (Value.int .i64) I 3 r r<|mkR (α:=Ed) 2 50 (fun _=>0) 4 r r<|bld bd64 r r r r<|bx 5 r r r r<|go 1 r<|dn ⟨by kernel_rfl,?_⟩
    refine bkH hy fun o1 hy k1 hk1 hc1=>meetI (fun (p:(List Int) × (Mp Int Int) × Nat × Nat × Nat × Nat × (Nat→Nat))=>match p with | (v5_2,m3_2,g1_1,g3_1,g4_1,g5_1,G4_1)=>mk [(2,(I a2)),(3,.ptr 1 g1_1 0 0),(10,.ptr 5 g5_1 0 0)] ([(1,some (g1_1,.buf 2 [.agg [(I a0.n),((SL 4 TiA) a0.ties)]])),(3,some (g3_1,.map (encM (Value.int .i64) I m3_2))),(4,some (g4_1,.map (encM (Value.int .i64) (evR 2) (mG 50 (Mp.empty:(Mp Int (List Ed))) G4_1)))),(5,some (g5_1,.buf 4 [.agg [(I a0.n),((SL 1 I) v5_2),.mp 3 g3_1,.mp 4 g4_1]]))]++rowsH EdA 2 50 (Mp.empty:(Mp Int (List Ed))) G4_1)) (fun p=>match p with | (v5_2,m3_2,g1_1,g3_1,g4_1,g5_1,G4_1)=>k1 (v5_2,m3_2)=some y) ?_ ?_
    ·skip
     refine reg 6 r<|go 2 r<|fa fo64_1 r r r<|ld tk29 r r r r r r<|lnf (f:=I) slB29 r r r<|go 1 r<|dn<|at_block<|wk (T':=[(2,(I a2)),(3,.ptr 1 _ 0 0),(10,.ptr 5 _ 0 0),(52,((SL 1 I) v4)),(53,(I (v4.length:Int))),(54,(I 0))]) (H':=([(1,some (_,.buf 2 [.agg [(I a0.n),((SL 4 TiA) a0.ties)]])),(3,some (_,.map (encM (Value.int .i64) I (Mp.empty:(Mp Int Int))))),(4,some (_,.map (encM (Value.int .i64) (evR 2) (mG 50 (Mp.empty:(Mp Int (List Ed))) (fun _=>0))))),(5,some (_,.buf 4 [.agg [(I a0.n),((SL 1 I) v4),.mp 3 _,.mp 4 _]]))]++rowsH EdA 2 50 (Mp.empty:(Mp Int (List Ed))) (fun _=>0))) (.k r r (.k r r (.k r r (.k r r (.k r r (.k r r .nil)))))) (.app (.k r r (.k r r (.k r r (.k r r .nil)))) (hooksRows fun i p hp=>absurd hp (by simp [Mp.empty])))<|loopI (fun (p:Nat × (List Int) × Int × Int × (Mp Int Int) × Nat × Nat × Nat × Nat × (Nat→Nat))=>match p with | (n2,v52_1,v53_1,v54_1,m3_1,g1_2,g3_2,g4_2,g5_2,G4_2)=>mk [(2,(I a2)),(3,.ptr 1 g1_2 0 0),(10,.ptr 5 g5_2 0 0),(52,((SL 1 I) v52_1)),(53,(I v53_1)),(54,(I v54_1))] ([(1,some (g1_2,.buf 2 [.agg [(I a0.n),((SL 4 TiA) a0.ties)]])),(3,some (g3_2,.map (encM (Value.int .i64) I m3_1))),(4,some (g4_2,.map (encM (Value.int .i64) (evR 2) (mG 50 (Mp.empty:(Mp Int (List Ed))) G4_2)))),(5,some (g5_2,.buf 4 [.agg [(I a0.n),((SL 1 I) v52_1),.mp 3 g3_2,.mp 4 g4_2]]))]++rowsH EdA 2 50 (Mp.empty:(Mp Int (List Ed))) G4_2)) (fun p=>match p with | (n2,v52_1,v53_1,v54_1,m3_1,g1_2,g3_2,g4_2,g5_2,G4_2)=>p_ca K  n2 v52_1 v53_1 v54_1 m3_1=some o1) (fun p=>p.1) ?_ (K,v4,(v4.length:Int),0,(Mp.empty:(Mp Int Int)),_,_,_,_,_) hy _
     rintro ⟨n2,v52_1,v53_1,v54_1,m3_1,g1_2,g3_2,g4_2,g5_2,G4_2⟩ cl hy
     cases n2 with | zero=>cases hy | succ n2=>?_
     change At _ cl (mk _ _) _
     replace hy:p_ca K  (n2+1) v52_1 v53_1 v54_1 m3_1=some o1:=hy
     rw [p_ca] at hy
     refine rg r<|at_seq<|cdH r hy (fun hy=>?_) fun hy=>?_
     ·refine at_skip<|at_seq<|at_block<|reg 3 r<|ixH hy fun i5 v6 qi5 xv6 hy=>fixP (f:=I) sl29 qi5 xv6 r r r r<|fld tk3 r r r r<|go 1 r<|dn<|reg1 6 r<|go 2 r<|fa fo64_2 r r r<|ld tk61 r r r r r r<|go 1 r<|upM (ev:=I) (m:=m3_1) (kInt ui3) mt61 (v:=1) (Option.some_ne_none _) r r r r r r<|dn<|at_bn<|rg1 r<|againI (n2,v52_1,v53_1,(w64 (v54_1+1)),(m3_1.set v6 1),_,_,_,_,_) r hy (Nat.lt_succ_self _) (.k r r (.k r r (.k r r (.k r r (.k r r (.k r r .nil)))))) (.app (.k r r (.k r r (.k r r (.k r r .nil)))) (hooksRows fun i p hp=>absurd hp (by simp [Mp.empty])))
     ·exact at_exit<|at_te<|at_te<|at_inBlock<|metI (v52_1,m3_1,_,_,_,_,_) r (sj2 hy hc1) (.k r r (.k r r (.k r r .nil))) (.app (.k r r (.k r r (.k r r (.k r r .nil)))) (hooksRows fun i p hp=>absurd hp (by simp [Mp.empty])))
    ·rintro ⟨v5_2,m3_2,g1_1,g3_1,g4_1,g5_1,G4_1⟩ cl hy
     subst hk1
     change At _ cl (mk _ _) _
     refine bkH hy fun o3 hy k3 hk3 hc3=>meetI (fun (p:(Mp Int (List Ed)) × Nat × Nat × Nat × (Nat→Nat))=>match p with | (m4_6,g3_3,g4_3,g5_3,G4_3)=>mk [(10,.ptr 5 g5_3 0 0)] ([(3,some (g3_3,.map (encM (Value.int .i64) I m3_2))),(4,some (g4_3,.map (encM (Value.int .i64) (evR 2) (mG 50 m4_6 G4_3)))),(5,some (g5_3,.buf 4 [.agg [(I a0.n),((SL 1 I) v5_2),.mp 3 g3_3,.mp 4 g4_3]]))]++rowsH EdA 2 50 m4_6 G4_3)) (fun p=>match p with | (m4_6,g3_3,g4_3,g5_3,G4_3)=>k3 m4_6=some y) ?_ ?_
     ·skip
      refine reg 4 r<|fa fo24_1 r r r<|ld tk22 r r r r r r<|lnf (f:=TiA) slB22 r r r<|go 1 r<|dn<|at_block<|wk (T':=[(2,(I a2)),(10,.ptr 5 _ 0 0),(65,((SL 4 TiA) a0.ties)),(66,(I (a0.ties.length:Int))),(67,(I 0))]) (H':=([(3,some (_,.map (encM (Value.int .i64) I m3_2))),(4,some (_,.map (encM (Value.int .i64) (evR 2) (mG 50 (Mp.empty:(Mp Int (List Ed))) G4_1)))),(5,some (_,.buf 4 [.agg [(I a0.n),((SL 1 I) v5_2),.mp 3 _,.mp 4 _]]))]++rowsH EdA 2 50 (Mp.empty:(Mp Int (List Ed))) G4_1)) (.k r r (.k r r (.k r r (.k r r (.k r r .nil))))) (.app (.k r r (.k r r (.k r r .nil))) (hooksRows fun i p hp=>absurd hp (by simp [Mp.empty])))<|loopI (fun (p:Nat × Int × (Mp Int (List Ed)) × Nat × Nat × Nat × (Nat→Nat))=>match p with | (n4,v67_5,m4_5,g3_4,g4_4,g5_4,G4_4)=>mk [(2,(I a2)),(10,.ptr 5 g5_4 0 0),(65,((SL 4 TiA) a0.ties)),(66,(I (a0.ties.length:Int))),(67,(I v67_5))] ([(3,some (g3_4,.map (encM (Value.int .i64) I m3_2))),(4,some (g4_4,.map (encM (Value.int .i64) (evR 2) (mG 50 m4_5 G4_4)))),(5,some (g5_4,.buf 4 [.agg [(I a0.n),((SL 1 I) v5_2),.mp 3 g3_4,.mp 4 g4_4]]))]++rowsH EdA 2 50 m4_5 G4_4)) (fun p=>match p with | (n4,v67_5,m4_5,g3_4,g4_4,g5_4,G4_4)=>p_i K a0 a2 n4 v67_5 m4_5=some o3) (fun p=>p.1) ?_ (K,0,(Mp.empty:(Mp Int (List Ed))),_,_,_,_) hy _
      rintro ⟨n4,v67_5,m4_5,g3_4,g4_4,g5_4,G4_4⟩ cl hy
      cases n4 with | zero=>cases hy | succ n4=>?_
      change At _ cl (mk _ _) _
      replace hy:p_i K a0 a2 (n4+1) v67_5 m4_5=some o3:=hy
      rw [p_i] at hy
      refine rg r<|at_seq<|cdH r hy (fun hy=>?_) fun hy=>?_
      ·refine at_skip<|bkH hy fun o5 hy k5 hk5 hc5=>meetI (fun (p:(Mp Int (List Ed)) × Nat × Nat × Nat × (Nat→Nat))=>match p with | (m4_4,g3_5,g4_5,g5_5,G4_5)=>mk [(2,(I a2)),(10,.ptr 5 g5_5 0 0),(65,((SL 4 TiA) a0.ties)),(66,(I (a0.ties.length:Int))),(67,(I v67_5))] ([(3,some (g3_5,.map (encM (Value.int .i64) I m3_2))),(4,some (g4_5,.map (encM (Value.int .i64) (evR 2) (mG 50 m4_4 G4_5)))),(5,some (g5_5,.buf 4 [.agg [(I a0.n),((SL 1 I) v5_2),.mp 3 g3_5,.mp 4 g4_5]]))]++rowsH EdA 2 50 m4_4 G4_5)) (fun p=>match p with | (m4_4,g3_5,g4_5,g5_5,G4_5)=>k5 m4_4=some o3) ?_ ?_
       ·skip
        refine at_block<|reg 4 r<|ixH hy fun i7 v8 qi7 xv8 hy=>fixP (f:=TiA) sl22 qi7 xv8 r r r r<|fldw tk45 r r r r<|rg_alloc (s:=6) (gd_of r) zc45 (elems_one (by rfl)) (lt_ok r)<|str tk45 r r r r r r r<|dn<|at_seq<|reg 8 r<|fa fo45_3 r r r<|ld tk4 r r r r r r<|go 1 r<|casH 73 r hy (fun hy=>?_) fun hy=>?_
        ·exact go 5 r<|dn<|cdt r<|at_exit<|at_te<|at_inBlock<|metI (m4_5,_,_,_,_) r (sj2 hy hc5) (.k r r (.k r r (.k r r (.k r r (.k r r .nil))))) (.app (.k r r (.k r r (.k r r .nil))) (hooksRows fun i p hp=>by simp [List.lookup,rows_look hp]))
        ·refine fa fo45_2 r r r<|ld tk3 r r r r r r<|go 3 r<|dn<|cdH r hy (fun hy=>?_) fun hy=>?_
         ·exact at_exit<|at_te<|at_inBlock<|metI (m4_5,_,_,_,_) r (sj2 hy hc5) (.k r r (.k r r (.k r r (.k r r (.k r r .nil))))) (.app (.k r r (.k r r (.k r r .nil))) (hooksRows fun i p hp=>by simp [List.lookup,rows_look hp]))
         ·refine at_skip<|reg 6 r<|fa fo45_0 r r r<|ld tk3 r r r r r r<|fa fo45_1 r r r<|ld tk3 r r r r r r<|bld bd25 r r r r<|go 1 r<|dn<|at_block<|wk (T':=[(2,(I a2)),(10,.ptr 5 _ 0 0),(14,.ptr 6 _ 0 0),(65,((SL 4 TiA) a0.ties)),(66,(I (a0.ties.length:Int))),(67,(I v67_5)),(83,((AR I) [v8.u,v8.v])),(84,(I 0))]) (H':=([(3,some (_,.map (encM (Value.int .i64) I m3_2))),(4,some (_,.map (encM (Value.int .i64) (evR 2) (mG 50 m4_5 G4_4)))),(5,some (_,.buf 4 [.agg [(I a0.n),((SL 1 I) v5_2),.mp 3 _,.mp 4 _]])),(6,some (_,.buf 4 [.agg [(I v8.u),(I v8.v),(I v8.level),(B v8.tree)]]))]++rowsH EdA 2 50 m4_5 G4_4)) (.k r r (.k r r (.k r r (.k r r (.k r r (.k r r (.k r r (.k r r .nil)))))))) (.app (.k r r (.k r r (.k r r (.k r r .nil)))) (hooksRows fun i p hp=>by simp [List.lookup,rows_look hp]))<|loopI (fun (p:Nat × (List Int) × Int × Int × Int × Int × Bool × (Mp Int (List Ed)) × Nat × Nat × Nat × Nat × (Nat→Nat))=>match p with | (n6,v83_3,v84_3,v6_3,v6_3_1,v6_3_2,v6_3_3,m4_3,g3_6,g4_6,g5_6,g6_6,G4_6)=>mk [(2,(I a2)),(10,.ptr 5 g5_6 0 0),(14,.ptr 6 g6_6 0 0),(65,((SL 4 TiA) a0.ties)),(66,(I (a0.ties.length:Int))),(67,(I v67_5)),(83,((AR I) v83_3)),(84,(I v84_3))] ([(3,some (g3_6,.map (encM (Value.int .i64) I m3_2))),(4,some (g4_6,.map (encM (Value.int .i64) (evR 2) (mG 50 m4_3 G4_6)))),(5,some (g5_6,.buf 4 [.agg [(I a0.n),((SL 1 I) v5_2),.mp 3 g3_6,.mp 4 g4_6]])),(6,some (g6_6,.buf 4 [.agg [(I v6_3),(I v6_3_1),(I v6_3_2),(B v6_3_3)]]))]++rowsH EdA 2 50 m4_3 G4_6)) (fun p=>match p with | (n6,v83_3,v84_3,v6_3,v6_3_1,v6_3_2,v6_3_3,m4_3,g3_6,g4_6,g5_6,g6_6,G4_6)=>p_H K  n6 v83_3 v84_3 v6_3 v6_3_1 v6_3_2 v6_3_3 m4_3=some o5) (fun p=>p.1) ?_ (K,[v8.u,v8.v],0,v8.u,v8.v,v8.level,v8.tree,m4_5,_,_,_,_,_) hy _
          rintro ⟨n6,v83_3,v84_3,v6_3,v6_3_1,v6_3_2,v6_3_3,m4_3,g3_6,g4_6,g5_6,g6_6,G4_6⟩ cl hy
          cases n6 with | zero=>cases hy | succ n6=>?_
          change At _ cl (mk _ _) _
          replace hy:p_H K  (n6+1) v83_3 v84_3 v6_3 v6_3_1 v6_3_2 v6_3_3 m4_3=some o5:=hy
          rw [p_H] at hy
          refine rg r<|at_seq<|cdH r hy (fun hy=>?_) fun hy=>?_
          ·refine at_skip<|at_seq<|at_block<|reg 2 r<|bdH hy fun i9 qi9 bi9 hy=>gtH hy fun v10 xv10 hy=>ixV (f:=I) ar25 tk3 qi9 bi9 xv10 r r r r r<|go 1 r<|dn<|regd1 mixed 19 r<|go 2 r<|fa fo64_3 r r r<|ld tk62 r r r r r r<|go 3 r<|fa fo64_3 r r r<|ld tk62 r r r r r r<|go 1 r<|?_
           rcases rowI hy with ⟨r11,xr11,hy⟩ | ⟨xr11,hy⟩
           ·skip
            refine lkRS (kInt ui3) mt62 zo41 xr11 r r r r r r<|fa fo45_0 r r r<|ld tk3 r r r r r r<|fa fo45_1 r r r<|ld tk3 r r r r r r<|bld bd47 r r r r<|bldsP EdA ([(Ed.mk v6_3 v6_3_1)]:List Ed) 7 se41 r r r r r r r<|apH hy fun k12a k12b hy=>apoP (s:=(m4_3.idx v10+50)) (f:=EdA) (l:=r11) (zs:=[(Ed.mk v6_3 v6_3_1)]) se41 k12a k12b r r r (by simp [List.lookup,rows_look (Mp.get_idx xr11)]) r r<|upR (kInt ui3) mt62 r r r r r r<|dn ⟨by kernel_rfl,?_⟩
            refine at_bn<|rg1 r<|againI (n6,v83_3,(w64 (v84_3+1)),v6_3,v6_3_1,v6_3_2,v6_3_3,(m4_3.set v10 (r11++[(Ed.mk v6_3 v6_3_1)])),_,_,_,_,_) r hy (Nat.lt_succ_self _) (.k r r (.k r r (.k r r (.k r r (.k r r (.k r r (.k r r (.k r r .nil)))))))) (.app (.k r r (.k r (mG_ob _ _ _) (.k r r (.k r r .nil)))) (rowsUpd (by simp [List.lookup]) (fun i p hi hp=>by simp [List.lookup,beq_false_of_ne hi,rows_look hp])))
           ·skip
            refine lkRN (kInt ui3) mt62 zo41 xr11 r r r r r r<|fa fo45_0 r r r<|ld tk3 r r r r r r<|fa fo45_1 r r r<|ld tk3 r r r r r r<|bld bd47 r r r r<|bldsP EdA ([(Ed.mk v6_3 v6_3_1)]:List Ed) 8 se41 r r r r r r r<|apH hy fun k13a k13b hy=>apN (f:=EdA) (zs:=[(Ed.mk v6_3 v6_3_1)]) (m4_3.idx v10+50) se41 (Nat.succ_pos _) (by simpa using k13a) (by simpa using k13b) r r r r r<|upR (kInt ui3) mt62 r r r r r r<|dn ⟨by kernel_rfl,?_⟩
            refine at_bn<|rg1 r<|againI (n6,v83_3,(w64 (v84_3+1)),v6_3,v6_3_1,v6_3_2,v6_3_3,(m4_3.set v10 [(Ed.mk v6_3 v6_3_1)]),_,_,_,_,_) r hy (Nat.lt_succ_self _) (.k r r (.k r r (.k r r (.k r r (.k r r (.k r r (.k r r (.k r r .nil)))))))) (.app (.k r r (.k r (mG_ob _ _ _) (.k r r (.k r r .nil)))) (rowsUpd (by simp [List.lookup]) (fun i p hi hp=>by simp [List.lookup,beq_false_of_ne hi,rows_look hp])))
          ·exact at_exit<|at_te<|at_te<|at_inBlock<|at_bn<|metI (m4_3,_,_,_,_) r (sj2 hy hc5) (.k r r (.k r r (.k r r (.k r r (.k r r .nil))))) (.app (.k r r (.k r r (.k r r .nil))) (hooksRows fun i p hp=>by simp [List.lookup,rows_look hp]))
       ·rintro ⟨m4_4,g3_5,g4_5,g5_5,G4_5⟩ cl hy
        subst hk5
        change At _ cl (mk _ _) _
        refine rg1 r<|againI (n4,(w64 (v67_5+1)),m4_4,_,_,_,_) r hy (Nat.lt_succ_self _) (.k r r (.k r r (.k r r (.k r r (.k r r .nil))))) (.app (.k r r (.k r r (.k r r .nil))) (hooksRows fun i p hp=>by simp [List.lookup,rows_look hp]))
      ·exact at_exit<|at_te<|at_te<|at_inBlock<|metI (m4_5,_,_,_,_) r (sj2 hy hc3) (.k r r .nil) (.app (.k r r (.k r r (.k r r .nil))) (hooksRows fun i p hp=>by simp [List.lookup,rows_look hp]))
     ·rintro ⟨m4_6,g3_3,g4_3,g5_3,G4_3⟩ cl hy
      subst hk3
      change At _ cl (mk _ _) _
      refine rg r<|at_ret<|frzT (f:=EdA) (ev:=I) (m1:=m3_2) (m2:=m4_6) (G:=G4_3) (R:=50) 6 5 3 4 [(I a0.n),((SL 1 I) v5_2)] r r r r (fun i p hp=>by simp [List.lookup,rows_look hp]) (PuL.all (.cons (pu_I _) (.cons ((pu_l 1 pu_I) _) (.nil)))) pu_Ed pu_I (fun _=>?_)
      obtain rfl:=sj hy
      exact outs (rs:=[6,7]) (res2 r) (by simp) (.inl r) (looks_of r) r (.cons ((pu_po pu_Seek_tree_) _) (.cons (pu_I _) (.nil)))
def p_Q (K:Nat) (a0:(List Ed)) (a1:(Ed→Option Bool)):Nat→Int→Option (Sum Unit Int)
 | 0,_=>none
 | n+1,v8_1=>(bif (decide (v8_1 < (a0.length:Int))) then (ixP a0 v8_1 fun v2=>((a1 v2).bind fun r3=>(bif r3 then some (.inr v8_1) else p_Q K a0 a1 n (w64 (v8_1+1))))) else some (.inl ()))
def p_5 (K:Nat) (a0:(List Ed)) (a1:(Ed→Option Bool)):Option Int :=
 ((p_Q K a0 a1 K 0:Option (Sum Unit Int)).bind fun | .inl _=>some (-1) | .inr r=>some r)
theorem w_cY {K:Nat}{a0:(List Ed)}{a1:(Ed→Option Bool)}{y:Int}{a1f:FuncId}{a1s a1c:List AV} (a1h:∀ {x0:Ed}{r:Bool},a1 x0=some r→Does PP GV a1f [] (a1s++[(EdA x0)]++a1c) [] [] (B r)) (a1k:callable PP a1f=true) (a1l:a1s.all flat=true∧a1c.all flat=true) (a1p:PuL a1s) (a1q:PuL a1c) (hy:p_5 K a0 a1=some y):Does PP GV 31 [] [((SL 2 EdA) a0),.fn (.func a1f) a1s a1c] [] [] (I y):=by
 unfold p_5 at hy
 refine does_of at31 r (le_ok r)<|?_
 rintro ⟨_,base,w0,F⟩ rfl
 refine rg r<|bkH hy fun o1 hy k1 hk1 hc1=>meetD [] [] r r (fun (p:Unit)=>match p with | _=>([],[],k1 (.inl ())=some y)) ?_ ?_
 ·skip
  refine reg 3 r<|go 1 r<|lnf (f:=EdA) slB41 r r r<|go 1 r<|dn<|at_block<|loopD [0,1,7] [] r r (fun (p:Nat × Int)=>match p with | (n2,v8_1)=>([(8,(I v8_1))],[],p_Q K a0 a1 n2 v8_1=some o1)) (K,0) (lk r) .nil hy<|?_
  rintro ⟨n2,v8_1⟩ cl hy
  obtain _ | n2:=n2;· cases hy
  refine nf r r<|?_
  replace hy:_=some _:=hy
  rw [p_Q] at hy
  refine rg r<|at_seq<|cdH r hy (fun hy=>?_) fun hy=>?_
  ·refine at_skip<|at_seq<|at_block<|rg r<|reg 6 r<|go 3 r<|ixH hy fun i1 v2 qi1 xv2 hy=>fixP (f:=EdA) sl41 qi1 xv2 r r r r<|fldw tk47 r r r r<|bndH hy fun r3 qr3 hy=>clv (a1h qr3) a1k r r r r a1l (puL3 a1p (.cons (pu_Ed _) (.nil)) a1q) (.one (pu_B _)) r<|dn<|cdH r hy (fun hy=>?_) fun hy=>?_
   ·refine rg r<|at_ret<|?_
    obtain rfl:=sj hy
    subst hk1;obtain rfl:=sj hc1
    exact eR r r
   ·refine at_skip<|at_bn<|rg1 r<|againD (n2,(w64 (v8_1+1))) (lk r) .nil r r hy r
  ·exact at_exit<|at_te<|at_te<|at_inBlock<|metD () .nil .nil r r (sj2 hy hc1)
 ·rintro ⟨⟩ cl hy
  subst hk1
  refine nf r r<|rg r<|at_ret<|?_
  obtain rfl:=sj hy
  exact eR r r
def p_l (K:Nat) (a1:(Ed→Option Bool)):Nat→Int→Int→(List Ed)→Option (Int × (List Ed))
 | 0,_,_,_=>none
 | n+1,v5_1,v6_1,l0_1=>(bif (decide (v6_1 < (l0_1.length:Int))) then (bdP l0_1.length v6_1 fun i2=>gtP l0_1 i2 fun v3=>((a1 v3).bind fun r4=>(bif (!r4) then (bdP l0_1.length v5_1 fun i5=>gtP l0_1 i5 fun v6=>p_l K a1 n (w64 (v5_1+1)) (w64 (v6_1+1)) (l0_1.set i5 v3)) else p_l K a1 n v5_1 (w64 (v6_1+1)) l0_1))) else some (v5_1,l0_1))
def p_bQ (K:Nat) (a0:(List Ed)) (a1:(Ed→Option Bool)):Option (Nat × (List Ed)) :=
 ((p_5 K a0 a1).bind fun r1=>(bif (r1 == (-1)) then some (a0.length,a0) else ((p_l K a1 K r1 (w64 (r1+1)) a0:Option (Int × (List Ed))).bind fun (v5_2,l0_2)=>(bdP (l0_2.length+1) v5_2 fun i7=>(guP (i7+(l0_2.length - i7)≤l0_2.length) ((bdP (l0_2.length+1) v5_2 fun i9=>some (i9,(l0_2.take i7)))))))))
theorem w_ez {K:Nat}{a0:(List Ed)}{a1:(Ed→Option Bool)}{y:(Nat × (List Ed))}{a1f:FuncId}{a1s a1c:List AV} (a1h:∀ {x0:Ed}{r:Bool},a1 x0=some r→Does PP GV a1f [] (a1s++[(EdA x0)]++a1c) [] [] (B r)) (a1k:callable PP a1f=true) (a1l:a1s.all flat=true∧a1c.all flat=true) (a1p:PuL a1s) (a1q:PuL a1c) (hy:p_bQ K a0 a1=some y):Does PP GV 33 [.buf 2 (a0.map EdA)] [.own 0 0 2 0 a0.length false,.fn (.func a1f) a1s a1c] [0] [.buf 2 (y.2.map EdA)] (.own 0 0 2 0 y.1 false):=by
 unfold p_bQ at hy
 refine does_of at33 r (le_ok r)<|?_
 rintro ⟨_,base,w0,F⟩ rfl
 refine rg r<|reg 4 r<|go 2 r<|bndH hy fun r1 qr1 hy=>clo1 (g1:=EdA) (l:=a0) (l':=a0) (s:=0) (ys:=[.own 0 0 2 0 a0.length false,_]) (lend (w_cY (a1h:=a1h) (a1k:=a1k) (a1l:=a1l) (a1p:=a1p) (a1q:=a1q) qr1) (.cons _ _ _ _ (rn_own (List.Mem.head _) (pu_map pu_Ed _) (by simp)) (.cons _ _ _ _ (.pu _ (pu_fn a1p a1q)) (.nil))) sc_v) ca31 r (.one (pu_I _)) r r pu_Ed ?_ r ?_
 ·exact .cons _ _ _ _ (rnOwn (List.Mem.head _) (by first | rfl | simp)) (.cons _ _ _ _ (.pu _ (pu_fn a1p a1q)) (.nil))
 refine go 1 r<|dn<|at_seq<|rg r<|cdH r hy (fun hy=>?_) fun hy=>?_
 ·refine rg r<|at_ret<|?_
  obtain rfl:=sj hy
  exact outOw (g1:=EdA) r (.inl r) r r pu_Ed r
 ·refine at_skip<|bkH hy fun o1 hy k1 hk1 hc1=>meetD [] [] r r (fun (p:Int × (List Ed))=>match p with | (v5_2,l0_2)=>([(0,.own 0 0 2 0 (l0_2).length false),(5,(I v5_2))],[(0,some (0,.buf 2 (l0_2.map EdA)))],k1 (v5_2,l0_2)=some y)) ?_ ?_
  ·skip
   refine rg r<|at_block<|loopD [1] [] r r (fun (p:Nat × Int × Int × (List Ed))=>match p with | (n2,v5_1,v6_1,l0_1)=>([(0,.own 0 0 2 0 (l0_1).length false),(5,(I v5_1)),(6,(I v6_1))],[(0,some (0,.buf 2 (l0_1.map EdA)))],p_l K a1 n2 v5_1 v6_1 l0_1=some o1)) (K,r1,(w64 (r1+1)),a0) (lk r) (hk r) hy<|?_
   rintro ⟨n2,v5_1,v6_1,l0_1⟩ cl hy
   obtain _ | n2:=n2;· cases hy
   refine nf r r<|?_
   replace hy:_=some _:=hy
   rw [p_l] at hy
   refine at_seq<|reg 4 r<|go 2 r<|lno slB41 r r r<|go 1 r<|dn<|cdH r hy (fun hy=>?_) fun hy=>?_
   ·refine at_skip<|at_seq<|at_block<|reg 6 r<|go 2 r<|bdH hy fun i2 qi2 bi2 hy=>gtH hy fun v3 xv3 hy=>ixP' sl41 qi2 bi2 r r r r<|ldP (f:=EdA) tk47 xv3 r r r r r<|rg_alloc (s:=1) (gd_of r) zc47 (elems_one (by rfl)) (lt_ok r)<|str tk47 r r r r r r r<|dn<|reg 4 r<|go 1 r<|ldw tk47 r r r r r r<|bndH hy fun r4 qr4 hy=>clv (a1h qr4) a1k r r r r a1l (puL3 a1p (.cons (pu_Ed _) (.nil)) a1q) (.one (pu_B _)) r<|go 1 r<|dn<|cdH r hy (fun hy=>?_) fun hy=>?_
    ·refine reg 5 r<|go 2 r<|ldw tk47 r r r r r r<|bdH hy fun i5 qi5 bi5 hy=>gtH hy fun v6 xv6 hy=>ixP' sl41 qi5 bi5 r r r r<|stP (f:=EdA) (v3) tk47 xv6 r r r r r r<|dn<|rg1 r<|at_bn<|rg1 r<|againD (n2,(w64 (v5_1+1)),(w64 (v6_1+1)),(l0_1.set i5 v3)) (.k r (by simp) (.j r (.j r .nil))) (hk r) r r hy r
    ·refine at_skip<|at_bn<|rg1 r<|againD (n2,v5_1,(w64 (v6_1+1)),l0_1) (lk r) (hk r) r r hy r
   ·exact at_exit<|at_te<|at_te<|at_inBlock<|metD (v5_1,l0_1) (lk r) (hk r) r r (sj2 hy hc1)
  ·rintro ⟨v5_2,l0_2⟩ cl hy
   subst hk1
   refine nf r r<|reg 4 r<|go 2 r<|bdH hy fun i7 qi7 bi7 hy=>sloB sl41 qi7 (Nat.le_of_lt_succ bi7) r r r r<|guH hy fun k8 hy=>clrP (f:=EdA) (l:=l0_2) se41 (by first | exact k8 | simpa using k8) r r r<|dn<|reg 4 r<|go 2 r<|bdH hy fun i9 qi9 bi9 hy=>sloF sl41 qi9 (Nat.le_of_lt_succ bi9) r r r r<|go 1 r<|dn<|at_ret<|?_
   obtain rfl:=sj hy
   exact outOw (g1:=EdA) r (.inl r) r r pu_Ed r
def p_fN (K:Nat) (a0:Gr) (a1:Int) (a2:Int):Option ((List Ed) × Int) :=
 ((p_X K a0 a1 a2).bind fun r1=>(bif (r1.2 != 0) then some ([],r1.2) else (r1.1.bind fun v2=>((p_b0 K v2).bind fun r3=>((p_fh K v2 r3).bind fun r4=>((p_bQ K r4 (fun (x0:Ed)=>p_fS K x0 v2)).bind fun r5=>guP (r5.1≤r5.2.length) (some ((List.take r5.1 r5.2),0))))))))
theorem w_gE {K:Nat}{a0:Gr}{a1:Int}{a2:Int}{y:((List Ed) × Int)} (hy:p_fN K a0 a1 a2=some y):Does PP GV 15 [] [(GrA a0),(I a1),(I a2)] [] [] (.tup [((SL 2 EdA) y.1),(I y.2)]):=by
 unfold p_fN at hy
 refine does_of at15 r (le_ok r)<|?_
 rintro ⟨_,base,w0,F⟩ rfl
 refine reg 3 r<|bx 1 r r r r<|go 2 r<|dn<|reg 10 r<|ldw tk24 r r r r r r<|go 2 r<|bndH hy fun r1 qr1 hy=>clp (w_fz qr1) ca17 r r (.cons (pu_Gr _) (.cons (pu_I _) (.cons (pu_I _) (.nil)))) (.tup (.cons ((pu_po pu_Seek_tree_) _) (.cons (pu_I _) (.nil)))) r<|go 3 r<|rg_alloc (s:=2) (gd_of r) zc56 (elems_one (by rfl)) (lt_ok r)<|str (e':=((PO Seek_tree_A) r1.1)) tk56 r r r r (by cases r1.1 <;> rfl) r (by cases r1.1 <;> rfl)<|go 1 r<|dn<|at_seq<|rg r<|cdH r hy (fun hy=>?_) fun hy=>?_
 ·refine rg r<|at_ret<|atnilP (EdA) 6 2 r<|?_
  obtain rfl:=sj hy
  exact mR r r (.t r (.t r .nil))
 ·refine at_skip<|bndH hy fun v2 xv2 hy=>heqA 2 (o':=.buf 1 [FP Seek_tree_A v2]) r (by first | (rw [xv2];done) | (rw [xv2];rfl))<|frzB (e:=((FP Seek_tree_A) v2)) 8 2 r r ((pu_fp pu_Seek_tree_) _)<|regd mixed 8 r<|fld tk56 r r r r<|fld tk56 r r r r<|bndH hy fun r3 qr3 hy=>clc (w_eG qr3) ca29 r r r<|bndH hy fun r4 qr4 hy=>clN (g1:=EdA) 3 (w_gx qr4) ca30 r r pu_Ed (.cons ((pu_fp pu_Seek_tree_) _) (.cons ((pu_l 1 pu_I) _) (.nil))) r<|rg_makeFunc (gd_of r) (evL_of r) (evL_of r) r (lt_ok r)<|bndH hy fun r5 qr5 hy=>cloW (s:=3) (w_ez (a1h:=fun h=>w_gY h) (a1k:=ca34) (a1l:=⟨r,r⟩) (a1p:=.nil) (a1q:=.cons ((pu_fp (pu_fp pu_Seek_tree_)) _) (.nil)) qr5) ca33 r r r pu_Ed ?_ r ?_
  ·exact .cons _ _ _ _ (rnOwn (List.Mem.head _) (by first | rfl | simp)) (.cons _ _ _ _ (.pu _ (pu_fn (.nil) (.cons ((pu_fp (pu_fp pu_Seek_tree_)) _) (.nil)))) (.nil))
  refine guH hy fun k6 hy=>go 2 r<|dn ⟨by kernel_rfl,?_⟩
  refine at_ret<|frzS (f:=EdA) (l:=r5.2) 6 3 r r pu_Ed k6<|?_
  obtain rfl:=sj hy
  exact mR r r (.t r (.t r .nil))
def p_dv (K:Nat) (a0:Gr) (a1:Int) (a2:Int) (a3:Int):Option ((List Ed) × Int) :=
 ((p_X K a0 a1 a2).bind fun r1=>(bif (r1.2 != 0) then some ([],r1.2) else (r1.1.bind fun v2=>((p_b0 K v2).bind fun r3=>(slP r3 0 (if 0 < (if (r3.length:Int) < a3 then (r3.length:Int) else a3) then (if (r3.length:Int) < a3 then (r3.length:Int) else a3) else 0) fun v6=>((p_dm K v2 v6).bind fun r7=>some (r7,0)))))))
theorem w_gl {K:Nat}{a0:Gr}{a1:Int}{a2:Int}{a3:Int}{y:((List Ed) × Int)} (hy:p_dv K a0 a1 a2 a3=some y):Does PP GV 12 [] [(GrA a0),(I a1),(I a2),(I a3)] [] [] (.tup [((SL 2 EdA) y.1),(I y.2)]):=by
 unfold p_dv at hy
 refine does_of at12 r (le_ok r)<|?_
 rintro ⟨_,base,w0,F⟩ rfl
 refine reg 3 r<|bx 1 r r r r<|go 2 r<|dn<|reg 9 r<|ldw tk24 r r r r r r<|go 2 r<|bndH hy fun r1 qr1 hy=>clp (w_fz qr1) ca17 r r (.cons (pu_Gr _) (.cons (pu_I _) (.cons (pu_I _) (.nil)))) (.tup (.cons ((pu_po pu_Seek_tree_) _) (.cons (pu_I _) (.nil)))) r<|go 5 r<|dn<|at_seq<|rg r<|cdH r hy (fun hy=>?_) fun hy=>?_
 ·refine rg r<|at_ret<|atnilP (EdA) 8 2 r<|?_
  obtain rfl:=sj hy
  exact mR r r (.t r (.t r .nil))
 ·refine at_skip<|reg 3 r<|go 1 r<|bndH hy fun v2 xv2 hy=>teq 10 (y:=FP Seek_tree_A v2) r (by rw [xv2])<|teq 18 (y:=FP Seek_tree_A v2) r (by rw [xv2])<|teq 23 (y:=FP Seek_tree_A v2) r (by rw [xv2])<|bndH hy fun r3 qr3 hy=>clc (w_eG qr3) ca29 r r r<|go 1 r<|dn<|reg 11 r<|go 4 r<|lnf (f:=I) slB29 r r r<|rg_min (gd_of r) (ev_of r) (ev_of r) (lt_ok r)<|rg_max (gd_of r) (ev_of r) (ev_of r) (lt_ok r)<|?_
  obtain ⟨i4,i5,qi4,qi5,bi4,ci4,hy⟩:=slI hy
  refine fslhP (f:=I) sl29 qi4 qi5 ci4 r r r r<|?_
  generalize ((List.take i5 r3).drop i4)=v6 at hy ⊢
  refine bndH hy fun r7 qr7 hy=>clc (w_f6 qr7) ca30 r r r<|go 2 r<|dn<|at_ret<|?_
  obtain rfl:=sj hy
  exact mR r r (.t r (.t r .nil))
def p_d2 (K:Nat)  : Nat→Seek_tree_→(List Int)→Bool→Int→Int→Int→Int→Option (Bool × Int × Int × Int × Int)
 | 0,_,_,_,_,_,_,_=>none
 | n+1,v8_1,v9_1,v2_1,v2_1_1,v2_1_2,v2_1_3,v2_1_4=>(bif (!v2_1) then (bif (decide (v2_1_4 < (v9_1.length:Int))) then (nnP (IntKind.u64.wrap v2_1_3) ((slP v9_1 0 (if (shlV .i64 1 (IntKind.u64.wrap v2_1_3)) < (v9_1.length:Int) then (shlV .i64 1 (IntKind.u64.wrap v2_1_3)) else (v9_1.length:Int)) fun v7=>((p_dm K v8_1 v7).bind fun r8=>((p_5 K r8 (fun (x0:Ed)=>p_dX K v8_1 x0)).bind fun r9=>(bif (decide (r9≥0)) then (ixP r8 r9 fun v11=>p_d2 K  n v8_1 v9_1 true v11.u v11.v (w64 (v2_1_3+1)) (if (shlV .i64 1 (IntKind.u64.wrap v2_1_3)) < (v9_1.length:Int) then (shlV .i64 1 (IntKind.u64.wrap v2_1_3)) else (v9_1.length:Int))) else p_d2 K  n v8_1 v9_1 v2_1 v2_1_1 v2_1_2 (w64 (v2_1_3+1)) (if (shlV .i64 1 (IntKind.u64.wrap v2_1_3)) < (v9_1.length:Int) then (shlV .i64 1 (IntKind.u64.wrap v2_1_3)) else (v9_1.length:Int)))))))) else some (v2_1,v2_1_1,v2_1_2,v2_1_3,v2_1_4)) else some (v2_1,v2_1_1,v2_1_2,v2_1_3,v2_1_4))
def p_eu (K:Nat) (a0:Gr) (a1:Int) (a2:Int):Option (Lo × Int) :=
 ((p_X K a0 a1 a2).bind fun r1=>(bif (r1.2 != 0) then some ((Lo.mk (Lo.mk false (Ed.mk 0 0) 0 0).found (Ed.mk (Lo.mk false (Ed.mk 0 0) 0 0).by_.u (Lo.mk false (Ed.mk 0 0) 0 0).by_.v) (Lo.mk false (Ed.mk 0 0) 0 0).rounds (Lo.mk false (Ed.mk 0 0) 0 0).nodes),r1.2) else (r1.1.bind fun v2=>((p_b0 K v2).bind fun r3=>((p_d2 K  K v2 r3 false 0 0 0 0:Option (Bool × Int × Int × Int × Int)).bind fun (v2_2,v2_2_1,v2_2_2,v2_2_3,v2_2_4)=>some ((Lo.mk (Lo.mk v2_2 (Ed.mk v2_2_1 v2_2_2) v2_2_3 v2_2_4).found (Ed.mk (Lo.mk v2_2 (Ed.mk v2_2_1 v2_2_2) v2_2_3 v2_2_4).by_.u (Lo.mk v2_2 (Ed.mk v2_2_1 v2_2_2) v2_2_3 v2_2_4).by_.v) (Lo.mk v2_2 (Ed.mk v2_2_1 v2_2_2) v2_2_3 v2_2_4).rounds (Lo.mk v2_2 (Ed.mk v2_2_1 v2_2_2) v2_2_3 v2_2_4).nodes),0))))))
theorem w_fA {K:Nat}{a0:Gr}{a1:Int}{a2:Int}{y:(Lo × Int)} (hy:p_eu K a0 a1 a2=some y):Does PP GV 14 [] [(GrA a0),(I a1),(I a2)] [] [] (.tup [(LoA y.1),(I y.2)]):=by
 unfold p_eu at hy
 refine does_of at14 r (le_ok r)<|?_
 rintro ⟨_,base,w0,F⟩ rfl
 refine reg 3 r<|bx 1 r r r r<|rg_alloc (s:=2) (gd_of r) zc50 (elems_one (by rfl)) (lt_ok r)<|go 1 r<|dn<|reg 9 r<|ldw tk24 r r r r r r<|go 2 r<|bndH hy fun r1 qr1 hy=>clp (w_fz qr1) ca17 r r (.cons (pu_Gr _) (.cons (pu_I _) (.cons (pu_I _) (.nil)))) (.tup (.cons ((pu_po pu_Seek_tree_) _) (.cons (pu_I _) (.nil)))) r<|go 5 r<|dn<|at_seq<|rg r<|cdH r hy (fun hy=>?_) fun hy=>?_
 ·refine reg 4 r<|bld bd50 r r r r<|go 1 r<|str tk50 r r r r r r r<|go 1 r<|dn<|at_ret<|?_
  obtain rfl:=sj hy
  exact mR r r (.c r r r tk50 r (.t r .nil))
 ·refine at_skip<|reg 3 r<|go 1 r<|bndH hy fun v2 xv2 hy=>teq 8 (y:=FP Seek_tree_A v2) r (by rw [xv2])<|teq 17 (y:=FP Seek_tree_A v2) r (by rw [xv2])<|teq 23 (y:=FP Seek_tree_A v2) r (by rw [xv2])<|bndH hy fun r3 qr3 hy=>clc (w_eG qr3) ca29 r r r<|go 1 r<|dn<|bkH hy fun o1 hy k1 hk1 hc1=>meetD [] [] r r (fun (p:Bool × Int × Int × Int × Int × Nat)=>match p with | (v2_2,v2_2_1,v2_2_2,v2_2_3,v2_2_4,g2_1)=>([(6,.ptr 2 g2_1 0 0)],[(2,some (g2_1,.buf 5 [.agg [(B v2_2),(I v2_2_1),(I v2_2_2),(I v2_2_3),(I v2_2_4)]]))],k1 (v2_2,v2_2_1,v2_2_2,v2_2_3,v2_2_4)=some y)) ?_ ?_
  ·skip
   refine at_block<|loopD [] [] r r (fun (p:Nat × Seek_tree_ × (List Int) × Bool × Int × Int × Int × Int × Nat)=>match p with | (n2,v8_1,v9_1,v2_1,v2_1_1,v2_1_2,v2_1_3,v2_1_4,g2_2)=>([(6,.ptr 2 g2_2 0 0),(8,((FP Seek_tree_A) v8_1)),(9,((SL 1 I) v9_1))],[(2,some (g2_2,.buf 5 [.agg [(B v2_1),(I v2_1_1),(I v2_1_2),(I v2_1_3),(I v2_1_4)]]))],p_d2 K  n2 v8_1 v9_1 v2_1 v2_1_1 v2_1_2 v2_1_3 v2_1_4=some o1)) (K,v2,r3,false,0,0,0,0,_) (lk r) (hk r) hy<|?_
   rintro ⟨n2,v8_1,v9_1,v2_1,v2_1_1,v2_1_2,v2_1_3,v2_1_4,g2_2⟩ cl hy
   obtain _ | n2:=n2;· cases hy
   refine nf r r<|?_
   replace hy:_=some _:=hy
   rw [p_d2] at hy
   refine at_seq<|reg 10 r<|fa fo50_0 r r r<|ld tk4 r r r r r r<|go 2 r<|casH 28 r hy (fun hy=>?_) fun hy=>?_
   ·refine fa fo50_3 r r r<|ld tk3 r r r r r r<|go 1 r<|lnf (f:=I) slB29 r r r<|go 2 r<|dn<|cdH r hy (fun hy=>?_) fun hy=>?_
    ·refine at_skip<|at_block<|reg 9 r<|go 1 r<|lnf (f:=I) slB29 r r r<|fa fo50_2 r r r<|ld tk3 r r r r r r<|rg_conv (gd_of r) (ev_of r) us3 ui76 (lt_ok r)<|?_
     obtain ⟨k4,hy⟩:=nnI hy
     refine shl r r r r k4<|rg_min (gd_of r) (ev_of r) (ev_of r) (lt_ok r)<|fa fo50_3 r r r<|str tk3 r r r r r r r<|dn<|reg 5 r<|fa fo50_2 r r r<|ld tk3 r r r r r r<|go 1 r<|fa fo50_2 r r r<|str tk3 r r r r r r r<|dn<|reg 7 r<|go 2 r<|fa fo50_3 r r r<|ld tk3 r r r r r r<|?_
     obtain ⟨i5,i6,qi5,qi6,bi5,ci5,hy⟩:=slI hy
     refine fslhP (f:=I) sl29 qi5 qi6 ci5 r r r r<|?_
     generalize ((List.take i6 v9_1).drop i5)=v7 at hy ⊢
     refine bndH hy fun r8 qr8 hy=>clc (w_f6 qr8) ca30 r r r<|go 1 r<|dn<|reg 5 r<|go 2 r<|rg_makeFunc (gd_of r) (evL_of r) (evL_of r) r (lt_ok r)<|bndH hy fun r9 qr9 hy=>clp (w_cY (a1h:=fun h=>w_fL h) (a1k:=ca32) (a1l:=⟨r,r⟩) (a1p:=.cons ((pu_fp pu_Seek_tree_) _) (.nil)) (a1q:=.nil) qr9) ca31 r r (.cons ((pu_l 2 pu_Ed) _) (.cons (pu_fn (.cons ((pu_fp pu_Seek_tree_) _) (.nil)) (.nil)) (.nil))) (.one (pu_I _)) r<|go 1 r<|dn<|rg r<|cdH r hy (fun hy=>?_) fun hy=>?_
     ·refine regd1 mixed 8 r<|go 2 r<|ixH hy fun i10 v11 qi10 xv11 hy=>fixP (f:=EdA) sl41 qi10 xv11 r r r r<|fldw tk47 r r r r<|fa fo50_0 r r r<|str tk4 r r r r r r r<|fa fo50_1 r r r<|str tk47 r r r r r r r<|dn ⟨by kernel_rfl,?_⟩
      refine at_bn<|againD (n2,v8_1,v9_1,true,v11.u,v11.v,(w64 (v2_1_3+1)),(if (shlV .i64 1 (IntKind.u64.wrap v2_1_3)) < (v9_1.length:Int) then (shlV .i64 1 (IntKind.u64.wrap v2_1_3)) else (v9_1.length:Int)),_) (lk r) (hk r) r r hy r
     ·refine at_skip<|at_bn<|againD (n2,v8_1,v9_1,v2_1,v2_1_1,v2_1_2,(w64 (v2_1_3+1)),(if (shlV .i64 1 (IntKind.u64.wrap v2_1_3)) < (v9_1.length:Int) then (shlV .i64 1 (IntKind.u64.wrap v2_1_3)) else (v9_1.length:Int)),_) (lk r) (hk r) r r hy r
    ·exact at_exit<|at_te<|at_te<|at_inBlock<|metD (v2_1,v2_1_1,v2_1_2,v2_1_3,v2_1_4,_) (lk r) (hk r) r r (sj2 hy hc1)
   ·exact go 6 r<|dn<|cdf r<|at_exit<|at_te<|at_te<|at_inBlock<|metD (v2_1,v2_1_1,v2_1_2,v2_1_3,v2_1_4,_) (lk r) (hk r) r r (sj2 hy hc1)
  ·rintro ⟨v2_2,v2_2_1,v2_2_2,v2_2_3,v2_2_4,g2_1⟩ cl hy
   subst hk1
   refine nf r r<|reg 3 r<|ldw tk50 r r r r r r<|str tk50 r r r r r r r<|go 1 r<|dn<|at_ret<|?_
   obtain rfl:=sj hy
   exact mR r r (.c r r r tk50 r (.t r .nil))
def p_f0 (K:Nat) (a0:Int):Option Bool :=
 (bif (decide (a0 < (-1073741824))) then some true else some (decide (a0 > 1073741824)))
theorem w_hl {K:Nat}{a0:Int}{y:Bool} (hy:p_f0 K a0=some y):Does PP GV 71 [] [(I a0)] [] [] (B y):=by
 unfold p_f0 at hy
 refine does_of at71 r (le_ok r)<|?_
 rintro ⟨_,base,w0,F⟩ rfl
 refine rg r<|reg 7 r<|go 3 r<|casH 5 r hy (fun hy=>?_) fun hy=>?_
 ·refine go 4 r<|dn<|at_ret<|?_
  obtain rfl:=sj hy
  exact eR r r
 ·refine go 4 r<|dn<|at_ret<|?_
  obtain rfl:=sj hy
  exact eR r r
def p_fq (K:Nat) (a0:Int):Option Bool :=
 (bif (decide (a0≥1)) then some (decide (a0≤8)) else some false)
theorem w_g2 {K:Nat}{a0:Int}{y:Bool} (hy:p_fq K a0=some y):Does PP GV 38 [] [(I a0)] [] [] (B y):=by
 unfold p_fq at hy
 refine does_of at38 r (le_ok r)<|?_
 rintro ⟨_,base,w0,F⟩ rfl
 refine rg r<|reg 7 r<|go 3 r<|casH 5 r hy (fun hy=>?_) fun hy=>?_
 ·refine go 4 r<|dn<|at_ret<|?_
  obtain rfl:=sj hy
  exact eR r r
 ·refine go 4 r<|dn<|at_ret<|?_
  obtain rfl:=sj hy
  exact eR r r
def p_eC (K:Nat) (a0:Int):Option Bool :=
 ((p_fq K a0).bind fun r1=>some (!r1))
theorem w_gF {K:Nat}{a0:Int}{y:Bool} (hy:p_eC K a0=some y):Does PP GV 37 [] [(I a0)] [] [] (B y):=by
 unfold p_eC at hy
 refine does_of at37 r (le_ok r)<|?_
 rintro ⟨_,base,w0,F⟩ rfl
 refine rg r<|reg 4 r<|go 1 r<|bndH hy fun r1 qr1 hy=>clc (w_g2 qr1) ca38 r r r<|go 2 r<|dn<|at_ret<|?_
 obtain rfl:=sj hy
 exact eR r r
def p_bT (K:Nat) (a0:(List Int)) (m0:Nat):Option (List Int) :=
 (guP (0 < m0) ((guP (m0≤a0.length) (apP 8 ([]:List Int).length m0 (some (([]:List Int)++List.take m0 a0))))))
theorem w_fO {K:Nat}{a0:(List Int)}{m0:Nat}{y:(List Int)} (hy:p_bT K a0 m0=some y):Does PP GV 41 [.buf 1 (a0.map I)] [.own 0 0 1 0 m0 false] [0] [.buf 1 (a0.map I)] ((SL 1 I) y):=by
 unfold p_bT at hy
 refine does_of at41 r (le_ok r)<|?_
 rintro ⟨_,base,w0,F⟩ rfl
 refine rg r<|at_seq<|reg 2 r<|go 1 r<|guH hy fun k1 hy=>eqNo sl29 k1 r r r<|dn<|cdf r<|at_skip<|reg 4 r<|bldsP I ([]:List Int) 1 se29 r r r r r r r<|go 1 r<|guH hy fun k2 hy=>apH hy fun k3a k3b hy=>apoS (f:=I) (l:=([]:List Int)) (zs:=a0) se29 k2 k3a k3b r r r r r r<|go 1 r<|dn<|at_ret<|frzP (f:=I) (l:=(([]:List Int)++List.take m0 a0)) 2 1 r r pu_I<|?_
 obtain rfl:=sj hy
 exact outO1 (g1:=I) r (.inl r) r ((pu_l 1 pu_I) _) r pu_I
def p_bE (K:Nat) (a0:(List Int)) (v43_4:Int) (l2_1:(List (Option (List Int)))):Nat→Int→Int→(List Int)→Option ((List Int) × (List (Option (List Int))))
 | 0,_,_,_=>none
 | n+1,v68_2,v69_2,l4_2=>(bif (decide (v69_2 < v68_2)) then (bdP 8 v69_2 fun i15=>gtP l4_2 i15 fun v16=>p_bE K a0 v43_4 l2_1 n v68_2 (w64 (v69_2+1)) (l4_2.set i15 (w64 ((w64 ((a0.length:Int) - 1)) - (Int.tmod v43_4 (a0.length:Int)))))) else some (l4_2,l2_1))
def p_bF (K:Nat) (a0:(List Int)) (a1:(List Int)):Nat→Int→(List Int)→(List Int)→(List Int)→(List (Option (List Int)))→Option ((List Int) × (List Int) × (List (Option (List Int))))
 | 0,_,_,_,_,_=>none
 | n+1,v43_4,v3_4,v3_4_1,l4_4,l2_4=>(bif (decide (v43_4 < (w64 (2 * (a0.length:Int))))) then (((nzP (a0.length:Int) ((((bif (decide (v43_4≥(a0.length:Int))) then (ixP a1 (w64 ((w64 ((a0.length:Int) - 1)) - (Int.tmod v43_4 (a0.length:Int)))) fun v8=>(bdP 9 v8 fun i9=>guP (List.length (List.map I l4_4)=8) (((p_bT K l4_4 i9).bind fun r10=>(bdP l2_4.length (w64 ((w64 ((a0.length:Int) - 1)) - (Int.tmod v43_4 (a0.length:Int)))) fun i11=>gtP l2_4 i11 fun v12=>some (l2_4.set i11 (some r10))))))) else some l2_4):Option (List (Option (List Int)))).bind fun l2_1=>(ixP a1 (w64 ((w64 ((a0.length:Int) - 1)) - (Int.tmod v43_4 (a0.length:Int)))) fun v14=>p_bE K a0 v43_4 l2_1 K v14 0 l4_4)))):Option ((List Int) × (List (Option (List Int))))).bind fun (l4_3,l2_3)=>p_bF K a0 a1 n (w64 (v43_4+1)) v3_4 v3_4_1 l4_3 l2_3) else some (v3_4,v3_4_1,l2_4))
def p_dc (K:Nat) (a0:(List Int)) (a1:(List Int)):Option (Tw × Int) :=
 (bif ((a0.length:Int) == 0) then some ((Tw.mk [] [] []),1) else (bif ((a1.length:Int) != (a0.length:Int)) then some ((Tw.mk [] [] []),1) else ((p_c3 K a0).bind fun r1=>(bif (!r1) then some ((Tw.mk [] [] []),1) else ((p_e K a1 (fun (x0:Int)=>p_eC K x0)).bind fun r2=>(bif r2 then some ((Tw.mk [] [] []),1) else ((p_J K a0).bind fun r3=>((p_J K a1).bind fun r4=>(mkP 24 (a0.length:Int) fun i5=>((p_bF K a0 a1 K 0 r3 r4 (List.replicate 8 (0:Int)) (List.replicate i5 (none:(Option (List Int)))):Option ((List Int) × (List Int) × (List (Option (List Int))))).bind fun (v3_5,v3_5_1,l2_5)=>some ((Tw.mk v3_5 v3_5_1 (l2_5.map fun o=>o.getD [])),0)))))))))))
theorem w_gi {K:Nat}{a0:(List Int)}{a1:(List Int)}{y:(Tw × Int)} (hy:p_dc K a0 a1=some y):Does PP GV 18 [] [((SL 1 I) a0),((SL 1 I) a1)] [] [] (.tup [(TwA y.1),(I y.2)]):=by
 unfold p_dc at hy
 refine does_of at18 r (le_ok r)<|?_
 rintro ⟨_,base,w0,F⟩ rfl
 refine reg 2 r<|rg_alloc (s:=1) (gd_of r) zc32 (elems_one (by rfl)) (lt_ok r)<|go 1 r<|dn<|reg 3 r<|go 1 r<|lnf (f:=I) slB29 r r r<|go 1 r<|dn<|rg r<|at_seq<|reg 18 r<|go 3 r<|casH 17 r hy (fun hy=>?_) fun hy=>?_
 ·refine go 15 r<|dn<|cdt r<|reg 3 r<|bld bd32 r r r r<|str tk32 r r r r r r r<|go 1 r<|dn<|at_ret<|cellN I 1 0 1 r r<|cellN I 1 1 1 r r<|cellN (SL 1 I) 1 2 1 r r<|?_
  obtain rfl:=sj hy
  exact mR r r (.c r r r tk32 r (.t r .nil))
 ·refine go 1 r<|lnf (f:=I) slB29 r r r<|go 4 r<|casH 23 r hy (fun hy=>?_) fun hy=>?_
  ·refine go 9 r<|dn<|cdt r<|reg 3 r<|bld bd32 r r r r<|str tk32 r r r r r r r<|go 1 r<|dn<|at_ret<|cellN I 1 0 1 r r<|cellN I 1 1 1 r r<|cellN (SL 1 I) 1 2 1 r r<|?_
   obtain rfl:=sj hy
   exact mR r r (.c r r r tk32 r (.t r .nil))
  ·refine go 1 r<|bndH hy fun r1 qr1 hy=>clc (w_fn qr1) ca39 r r r<|go 3 r<|casH 28 r hy (fun hy=>?_) fun hy=>?_
   ·refine go 4 r<|dn<|cdt r<|reg 3 r<|bld bd32 r r r r<|str tk32 r r r r r r r<|go 1 r<|dn<|at_ret<|cellN I 1 0 1 r r<|cellN I 1 1 1 r r<|cellN (SL 1 I) 1 2 1 r r<|?_
    obtain rfl:=sj hy
    exact mR r r (.c r r r tk32 r (.t r .nil))
   ·refine go 2 r<|bndH hy fun r2 qr2 hy=>clp (w_bR (a1h:=fun h=>w_gF h) (a1k:=ca37) (a1l:=⟨r,r⟩) (a1p:=.nil) (a1q:=.nil) qr2) ca40 r r (.cons ((pu_l 1 pu_I) _) (.cons (pu_fn (.nil) (.nil)) (.nil))) (.one (pu_B _)) r<|go 1 r<|dn<|cdH r hy (fun hy=>?_) fun hy=>?_
    ·refine reg 3 r<|bld bd32 r r r r<|str tk32 r r r r r r r<|go 1 r<|dn<|at_ret<|cellN I 1 0 1 r r<|cellN I 1 1 1 r r<|cellN (SL 1 I) 1 2 1 r r<|?_
     obtain rfl:=sj hy
     exact mR r r (.c r r r tk32 r (.t r .nil))
    ·refine at_skip<|regd mixed 9 r<|go 1 r<|bndH hy fun r3 qr3 hy=>clc (w_eS qr3) ca41 r r r<|go 1 r<|bndH hy fun r4 qr4 hy=>clc (w_eS qr4) ca41 r r r<|go 1 r<|?_
     obtain ⟨i5,qi5,bi5,hy⟩:=mkI hy
     refine mksP (f:=(NL 1 I)) none 2 se30 qi5 bi5 r r r r r r<|bld bd32 r r r r<|rg_alloc (s:=3) (gd_of r) zc32 (elems_one (by rfl)) (lt_ok r)<|str tk32 r r r r r r r<|dn ⟨by kernel_rfl,?_⟩
     refine reg 1 r<|alA I 0 8 4 zc88 r r r r<|dn<|bkH hy fun o1 hy k1 hk1 hc1=>meetD [4] [1] r r (fun (p:(List Int) × (List Int) × (List (Option (List Int))) × Nat × Nat)=>match p with | (v3_5,v3_5_1,l2_5,g2_1,g3_1)=>([(8,.ptr 3 g3_1 0 0)],[(2,some (g2_1,.buf 1 (l2_5.map (NL 1 I)))),(3,some (g3_1,.buf 3 [.agg [((SL 1 I) v3_5),((SL 1 I) v3_5_1),.own 2 g2_1 1 0 (l2_5).length false]]))],k1 (v3_5,v3_5_1,l2_5)=some y)) ?_ ?_
     ·skip
      refine rg r<|at_block<|loopD [1,4,6,42] [1] r r (fun (p:Nat × Int × (List Int) × (List Int) × (List Int) × (List (Option (List Int))) × Nat × Nat × Nat)=>match p with | (n2,v43_4,v3_4,v3_4_1,l4_4,l2_4,g2_2,g3_2,g4_2)=>([(8,.ptr 3 g3_2 0 0),(9,.ptr 4 g4_2 0 0),(43,(I v43_4))],[(2,some (g2_2,.buf 1 (l2_4.map (NL 1 I)))),(3,some (g3_2,.buf 3 [.agg [((SL 1 I) v3_4),((SL 1 I) v3_4_1),.own 2 g2_2 1 0 (l2_4).length false]])),(4,some (g4_2,.buf 1 (l4_4.map I)))],p_bF K a0 a1 n2 v43_4 v3_4 v3_4_1 l4_4 l2_4=some o1)) (K,0,r3,r4,(List.replicate 8 (0:Int)),(List.replicate i5 (none:(Option (List Int)))),_,_,_) (lk r) (hk r) hy<|?_
      rintro ⟨n2,v43_4,v3_4,v3_4_1,l4_4,l2_4,g2_2,g3_2,g4_2⟩ cl hy
      obtain _ | n2:=n2;· cases hy
      refine nf r r<|?_
      replace hy:_=some _:=hy
      rw [p_bF] at hy
      refine rg r<|at_seq<|cdH r hy (fun hy=>?_) fun hy=>?_
      ·refine at_skip<|bkH hy fun o3 hy k3 hk3 hc3=>meetD [1,4,6,42,43] [1] r r (fun (p:(List Int) × (List (Option (List Int))) × Nat × Nat × Nat)=>match p with | (l4_3,l2_3,g2_3,g3_3,g4_3)=>([(8,.ptr 3 g3_3 0 0),(9,.ptr 4 g4_3 0 0)],[(2,some (g2_3,.buf 1 (l2_3.map (NL 1 I)))),(3,some (g3_3,.buf 3 [.agg [((SL 1 I) v3_4),((SL 1 I) v3_4_1),.own 2 g2_3 1 0 (l2_3).length false]])),(4,some (g4_3,.buf 1 (l4_3.map I)))],k3 (l4_3,l2_3)=some o1)) ?_ ?_
       ·skip
        refine at_block<|rg r<|reg 7 r<|go 4 r<|?_
        obtain ⟨k6,hy⟩:=nzI hy
        refine rm r r r r k6<|go 2 r<|dn<|bkH hy fun o4 hy k4 hk4 hc4=>meetD [1,4,6,9,11,42,43] [1,4] r r (fun (p:(List (Option (List Int))) × Nat × Nat)=>match p with | (l2_1,g2_4,g3_4)=>([(8,.ptr 3 g3_4 0 0)],[(2,some (g2_4,.buf 1 (l2_1.map (NL 1 I)))),(3,some (g3_4,.buf 3 [.agg [((SL 1 I) v3_4),((SL 1 I) v3_4_1),.own 2 g2_4 1 0 (l2_1).length false]]))],k4 l2_1=some o3)) ?_ ?_
        ·skip
         refine rg r<|cdH r hy (fun hy=>?_) fun hy=>?_
         ·refine regd1 mixed 11 r<|fa fo32_2 r r r<|ld tk30 r r r r r r<|go 3 r<|ixH hy fun i7 v8 qi7 xv8 hy=>fixP (f:=I) sl29 qi7 xv8 r r r r<|fld tk3 r r r r<|bdH hy fun i9 qi9 bi9 hy=>guH hy fun ki9 hy=>slA ar88 ki9 qi9 (Nat.le_of_lt_succ bi9) r r r r r<|bndH hy fun r10 qr10 hy=>clo1 (s:=4) (w_fO qr10) ca41 r (.one ((pu_l 1 pu_I) _)) r r pu_I ?_ r ?_
          ·exact .cons _ _ _ _ (rnOwn (List.Mem.head _) r) .nil
          refine bdH hy fun i11 qi11 bi11 hy=>gtH hy fun v12 xv12 hy=>ixP' sl30 qi11 bi11 r r r r<|stP (f:=(NL 1 I)) ((some r10)) tk29 xv12 r r r r r (by cases v12 <;> rfl)<|dn ⟨by kernel_rfl,?_⟩
          exact metD ((l2_4.set i11 (some r10)),_,_) (lk r) (.j r (.k r (by simp) .nil)) r r (sj2 hy hc4)
         ·exact at_skip<|metD (l2_4,_,_) (lk r) (hk r) r r (sj2 hy hc4)
        ·rintro ⟨l2_1,g2_4,g3_4⟩ cl hy
         subst hk4
         refine nf r r<|reg 5 r<|go 2 r<|ixH hy fun i13 v14 qi13 xv14 hy=>fixP (f:=I) sl29 qi13 xv14 r r r r<|fld tk3 r r r r<|go 1 r<|dn<|at_block<|loopD [1,4,6,8,11,42,43] [1,2,3] r r (fun (p:Nat × Int × Int × (List Int) × Nat)=>match p with | (n5,v68_2,v69_2,l4_2,g4_5)=>([(9,.ptr 4 g4_5 0 0),(68,(I v68_2)),(69,(I v69_2))],[(4,some (g4_5,.buf 1 (l4_2.map I)))],p_bE K a0 v43_4 l2_1 n5 v68_2 v69_2 l4_2=some o3)) (K,v14,0,l4_4,_) (lk r) (hk r) hy<|?_
         rintro ⟨n5,v68_2,v69_2,l4_2,g4_5⟩ cl hy
         obtain _ | n5:=n5;· cases hy
         refine nf r r<|?_
         replace hy:_=some _:=hy
         rw [p_bE] at hy
         refine rg r<|at_seq<|cdH r hy (fun hy=>?_) fun hy=>?_
         ·refine at_skip<|at_seq<|at_block<|rg r<|reg1 4 r<|go 2 r<|bdH hy fun i15 qi15 bi15 hy=>gtH hy fun v16 xv16 hy=>ixA ar88 qi15 bi15 r r r r r<|stP (f:=I) ((w64 ((w64 ((a0.length:Int) - 1)) - (Int.tmod v43_4 (a0.length:Int))))) tk3 xv16 r r r r r r<|dn<|at_bn<|rg1 r<|againD (n5,v68_2,(w64 (v69_2+1)),(l4_2.set i15 (w64 ((w64 ((a0.length:Int) - 1)) - (Int.tmod v43_4 (a0.length:Int))))),_) (lk r) (hk r) r r hy r
         ·exact at_exit<|at_te<|at_te<|at_inBlock<|at_bn<|metD (l4_2,l2_1,_,_,_) (lk r) (hk r) r r (sj2 hy hc3)
       ·rintro ⟨l4_3,l2_3,g2_3,g3_3,g4_3⟩ cl hy
        subst hk3
        refine nf r r<|rg1 r<|againD (n2,(w64 (v43_4+1)),v3_4,v3_4_1,l4_3,l2_3,_,_,_) (lk r) (hk r) r r hy r
      ·exact at_exit<|at_te<|at_te<|at_inBlock<|metD (v3_4,v3_4_1,l2_4,_,_) (lk r) (hk r) r r (sj2 hy hc1)
     ·rintro ⟨v3_5,v3_5_1,l2_5,g2_1,g3_1⟩ cl hy
      subst hk1
      refine nf r r<|reg 3 r<|ldw tk32 r r r r r r<|str tk32 r r r r r r r<|go 1 r<|dn<|at_ret<|nslF (f:=I) (l:=l2_5) 2 r<|cellL 1 2 (m':=(l2_5.map fun o=>o.getD []).length) (by simp) r r<|cellF (f:=(SL 1 I)) (l:=(l2_5.map fun o=>o.getD [])) 1 2 2 r r r (pu_l 1 pu_I) r<|?_
      obtain rfl:=sj hy
      exact mR r r (.c r r r tk32 r (.t r .nil))
def p_a (K:Nat) (a0:(List (List Int))) (a1:(List (List Int))) (a2:((List Int)→(List Int)→Option Bool)):Nat→Int→Option (Sum Unit Bool)
 | 0,_=>none
 | n+1,v17_1=>(bif (decide (v17_1 < (a0.length:Int))) then (ixP a0 v17_1 fun v2=>(ixP a1 v17_1 fun v4=>((a2 v2 v4).bind fun r5=>(bif (!r5) then some (.inr false) else p_a K a0 a1 a2 n (w64 (v17_1+1)))))) else some (.inl ()))
def p_t (K:Nat) (a0:(List (List Int))) (a1:(List (List Int))) (a2:((List Int)→(List Int)→Option Bool)):Option Bool :=
 (bif ((a0.length:Int) != (a1.length:Int)) then some false else ((p_a K a0 a1 a2 K 0:Option (Sum Unit Bool)).bind fun | .inl _=>some true | .inr r=>some r))
theorem w_eh {K:Nat}{a0:(List (List Int))}{a1:(List (List Int))}{a2:((List Int)→(List Int)→Option Bool)}{y:Bool}{a2f:FuncId}{a2s a2c:List AV} (a2h:∀ {x0:(List Int)}{x1:(List Int)}{r:Bool},a2 x0 x1=some r→Does PP GV a2f [] (a2s++[((SL 1 I) x0),((SL 1 I) x1)]++a2c) [] [] (B r)) (a2k:callable PP a2f=true) (a2l:a2s.all flat=true∧a2c.all flat=true) (a2p:PuL a2s) (a2q:PuL a2c) (hy:p_t K a0 a1 a2=some y):Does PP GV 118 [] [((SL 1 (SL 1 I)) a0),((SL 1 (SL 1 I)) a1),.fn (.func a2f) a2s a2c] [] [] (B y):=by
 unfold p_t at hy
 refine does_of at118 r (le_ok r)<|?_
 rintro ⟨_,base,w0,F⟩ rfl
 refine rg r<|at_seq<|reg 5 r<|go 1 r<|lnf (f:=(SL 1 I)) slB30 r r r<|go 1 r<|lnf (f:=(SL 1 I)) slB30 r r r<|go 1 r<|dn<|cdH r hy (fun hy=>?_) fun hy=>?_
 ·refine rg r<|at_ret<|?_
  obtain rfl:=sj hy
  exact eR r r
 ·refine at_skip<|bkH hy fun o1 hy k1 hk1 hc1=>meetD [] [] r r (fun (p:Unit)=>match p with | _=>([],[],k1 (.inl ())=some y)) ?_ ?_
  ·skip
   refine reg 3 r<|go 1 r<|lnf (f:=(SL 1 I)) slB30 r r r<|go 1 r<|dn<|at_block<|loopD [1,2,15,16] [] r r (fun (p:Nat × Int)=>match p with | (n2,v17_1)=>([(17,(I v17_1))],[],p_a K a0 a1 a2 n2 v17_1=some o1)) (K,0) (lk r) .nil hy<|?_
   rintro ⟨n2,v17_1⟩ cl hy
   obtain _ | n2:=n2;· cases hy
   refine nf r r<|?_
   replace hy:_=some _:=hy
   rw [p_a] at hy
   refine rg r<|at_seq<|cdH r hy (fun hy=>?_) fun hy=>?_
   ·refine at_skip<|at_seq<|at_block<|reg 5 r<|go 1 r<|ixH hy fun i1 v2 qi1 xv2 hy=>fixP (f:=(SL 1 I)) sl30 qi1 xv2 r r r r<|fld tk29 r r r r<|go 2 r<|dn<|reg 5 r<|go 2 r<|ixH hy fun i3 v4 qi3 xv4 hy=>fixP (f:=(SL 1 I)) sl30 qi3 xv4 r r r r<|fld tk29 r r r r<|go 1 r<|dn<|reg 5 r<|go 3 r<|bndH hy fun r5 qr5 hy=>clv (a2h qr5) a2k r r r r a2l (puL3 a2p (.cons ((pu_l 1 pu_I) _) (.cons ((pu_l 1 pu_I) _) (.nil))) a2q) (.one (pu_B _)) r<|go 1 r<|dn<|cdH r hy (fun hy=>?_) fun hy=>?_
    ·refine rg r<|at_ret<|?_
     obtain rfl:=sj hy
     subst hk1;obtain rfl:=sj hc1
     exact eR r r
    ·refine at_skip<|at_bn<|rg1 r<|againD (n2,(w64 (v17_1+1))) (lk r) .nil r r hy r
   ·exact at_exit<|at_te<|at_te<|at_inBlock<|metD () .nil .nil r r (sj2 hy hc1)
  ·rintro ⟨⟩ cl hy
   subst hk1
   refine nf r r<|rg r<|at_ret<|?_
   obtain rfl:=sj hy
   exact eR r r
end Go.Ar
namespace Go.Ar
open Go.RowKit
def p_9 (K:Nat) (a0:(List Int)) (a1:(List Int)):Nat→Int→Option (Sum Unit Bool)
 | 0,_=>none
 | n+1,v13_1=>(bif (decide (v13_1 < (a0.length:Int))) then (ixP a0 v13_1 fun v2=>(ixP a1 v13_1 fun v4=>(bif (v2 != v4) then some (.inr false) else p_9 K a0 a1 n (w64 (v13_1+1))))) else some (.inl ()))
def p_k (K:Nat) (a0:(List Int)) (a1:(List Int)):Option Bool :=
 (bif ((a0.length:Int) != (a1.length:Int)) then some false else ((p_9 K a0 a1 K 0:Option (Sum Unit Bool)).bind fun | .inl _=>some true | .inr r=>some r))
theorem w_dF {K:Nat}{a0:(List Int)}{a1:(List Int)}{y:Bool} (hy:p_k K a0 a1=some y):Does PP GV 117 [] [((SL 1 I) a0),((SL 1 I) a1)] [] [] (B y):=by
 unfold p_k at hy
 refine does_of at117 r (le_ok r)<|?_
 rintro ⟨_,base,w0,F⟩ rfl
 refine rg r<|at_seq<|reg 5 r<|go 1 r<|lnf (f:=I) slB29 r r r<|go 1 r<|lnf (f:=I) slB29 r r r<|go 1 r<|dn<|cdH r hy (fun hy=>?_) fun hy=>?_
 ·refine rg r<|at_ret<|?_
  obtain rfl:=sj hy
  exact eR r r
 ·refine at_skip<|bkH hy fun o1 hy k1 hk1 hc1=>meetD [] [] r r (fun (p:Unit)=>match p with | _=>([],[],k1 (.inl ())=some y)) ?_ ?_
  ·skip
   refine reg 3 r<|go 1 r<|lnf (f:=I) slB29 r r r<|go 1 r<|dn<|at_block<|loopD [0,1,12] [] r r (fun (p:Nat × Int)=>match p with | (n2,v13_1)=>([(13,(I v13_1))],[],p_9 K a0 a1 n2 v13_1=some o1)) (K,0) (lk r) .nil hy<|?_
   rintro ⟨n2,v13_1⟩ cl hy
   obtain _ | n2:=n2;· cases hy
   refine nf r r<|?_
   replace hy:_=some _:=hy
   rw [p_9] at hy
   refine rg r<|at_seq<|cdH r hy (fun hy=>?_) fun hy=>?_
   ·refine at_skip<|at_seq<|at_block<|rg r<|regd mixed 9 r<|go 2 r<|ixH hy fun i1 v2 qi1 xv2 hy=>fixP (f:=I) sl29 qi1 xv2 r r r r<|fld tk3 r r r r<|go 2 r<|ixH hy fun i3 v4 qi3 xv4 hy=>fixP (f:=I) sl29 qi3 xv4 r r r r<|fld tk3 r r r r<|go 1 r<|dn ⟨by kernel_rfl,?_⟩
    refine cdH r hy (fun hy=>?_) fun hy=>?_
    ·refine rg r<|at_ret<|?_
     obtain rfl:=sj hy
     subst hk1;obtain rfl:=sj hc1
     exact eR r r
    ·refine at_skip<|at_bn<|rg1 r<|againD (n2,(w64 (v13_1+1))) (lk r) .nil r r hy r
   ·exact at_exit<|at_te<|at_te<|at_inBlock<|metD () .nil .nil r r (sj2 hy hc1)
  ·rintro ⟨⟩ cl hy
   subst hk1
   refine nf r r<|rg r<|at_ret<|?_
   obtain rfl:=sj hy
   exact eR r r
def p_eK (K:Nat) (a0:Tw) (a1:Tw):Option Bool :=
 ((p_k K a0.tokens a1.tokens).bind fun r1=>(bif r1 then ((p_k K a0.heights a1.heights).bind fun r2=>(bif r2 then ((p_t K a0.next a1.next (fun (x0:(List Int)) (x1:(List Int))=>p_k K x0 x1)).bind fun r3=>some r3) else some false)) else some false))
theorem w_g3 {K:Nat}{a0:Tw}{a1:Tw}{y:Bool} (hy:p_eK K a0 a1=some y):Does PP GV 97 [] [(TwA a0),(TwA a1)] [] [] (B y):=by
 unfold p_eK at hy
 refine does_of at97 r (le_ok r)<|?_
 rintro ⟨_,base,w0,F⟩ rfl
 refine reg 3 r<|bx 1 r r r r<|bx 2 r r r r<|go 1 r<|dn<|reg 20 r<|fa fo32_0 r r r<|ld tk29 r r r r r r<|fa fo32_0 r r r<|ld tk29 r r r r r r<|bndH hy fun r1 qr1 hy=>clc (w_dF qr1) ca117 r r r<|go 1 r<|casH 10 r hy (fun hy=>?_) fun hy=>?_
 ·refine fa fo32_1 r r r<|ld tk29 r r r r r r<|fa fo32_1 r r r<|ld tk29 r r r r r r<|bndH hy fun r2 qr2 hy=>clc (w_dF qr2) ca117 r r r<|go 2 r<|casH 17 r hy (fun hy=>?_) fun hy=>?_
  ·refine fa fo32_2 r r r<|ld tk30 r r r r r r<|fa fo32_2 r r r<|ld tk30 r r r r r r<|bndH hy fun r3 qr3 hy=>clp (w_eh (a2h:=fun h=>w_dF h) (a2k:=ca117) (a2l:=⟨r,r⟩) (a2p:=.nil) (a2q:=.nil) qr3) ca118 r r (.cons ((pu_l 1 (pu_l 1 pu_I)) _) (.cons ((pu_l 1 (pu_l 1 pu_I)) _) (.cons (pu_fn (.nil) (.nil)) (.nil)))) (.one (pu_B _)) r<|go 2 r<|dn<|at_ret<|?_
   obtain rfl:=sj hy
   exact eR r r
  ·refine go 7 r<|dn<|at_ret<|?_
   obtain rfl:=sj hy
   exact eR r r
 ·refine go 14 r<|dn<|at_ret<|?_
  obtain rfl:=sj hy
  exact eR r r
def p_el (K:Nat) (a0:Tw):Option Bool :=
 ((p_dc K a0.tokens a0.heights).bind fun r1=>(bif (r1.2 == 0) then ((p_eK K r1.1 a0).bind fun r2=>some r2) else some false))
theorem w_gT {K:Nat}{a0:Tw}{y:Bool} (hy:p_el K a0=some y):Does PP GV 70 [] [(TwA a0)] [] [] (B y):=by
 unfold p_el at hy
 refine does_of at70 r (le_ok r)<|?_
 rintro ⟨_,base,w0,F⟩ rfl
 refine reg 2 r<|bx 1 r r r r<|go 1 r<|dn<|reg 11 r<|fa fo32_0 r r r<|ld tk29 r r r r r r<|fa fo32_1 r r r<|ld tk29 r r r r r r<|bndH hy fun r1 qr1 hy=>clc (w_gi qr1) ca18 r r r<|go 3 r<|rg_alloc (s:=2) (gd_of r) zc32 (elems_one (by rfl)) (lt_ok r)<|str tk32 r r r r r r r<|go 1 r<|dn<|reg 8 r<|go 3 r<|casH 15 r hy (fun hy=>?_) fun hy=>?_
 ·refine ldw tk32 r r r r r r<|ldw tk32 r r r r r r<|bndH hy fun r2 qr2 hy=>clc (w_g3 qr2) ca97 r r r<|go 2 r<|dn<|at_ret<|?_
  obtain rfl:=sj hy
  exact eR r r
 ·refine go 5 r<|dn<|at_ret<|?_
  obtain rfl:=sj hy
  exact eR r r
def p_cb (K:Nat) (a1:(List Int)):Nat→Int→(List Int)→Option (List Int)
 | 0,_,_=>none
 | n+1,v37_1,l2_1=>(bif (decide (v37_1 < (a1.length:Int))) then (ixP a1 v37_1 fun v5=>(bdP l2_1.length v37_1 fun i6=>gtP l2_1 i6 fun v7=>(bdP l2_1.length (w64 (v37_1+1)) fun i8=>gtP l2_1 i8 fun v9=>p_cb K a1 n (w64 (v37_1+1)) (l2_1.set i8 (w64 (v7+v5)))))) else some l2_1)
def p_cc (K:Nat) (l2_2:(List Int)) (v58_6:Int) (a0:Tw) (l3_6:(List (Option (List Int)))) (i13:Nat):Nat→(List Int)→Int→Int→(List Int)→Option (List (Option (List Int)))
 | 0,_,_,_,_=>none
 | n+1,v63_4,v64_4,v65_4,l7003_4=>(bif (decide (v65_4 < v64_4)) then (ixP v63_4 v65_4 fun v16=>(bdP l2_2.length v16 fun i17=>gtP l2_2 i17 fun v18=>(bdP l2_2.length v58_6 fun i19=>gtP l2_2 i19 fun v20=>(((bif (decide (v16≤v58_6)) then (bdP l2_2.length (a0.tokens.length:Int) fun i21=>gtP l2_2 i21 fun v22=>some (w64 ((w64 (v18 - v20))+v22))) else some (w64 (v18 - v20))):Option Int).bind fun v15_3=>(apP 8 l7003_4.length [v15_3].length (p_cc K l2_2 v58_6 a0 l3_6 i13 n v63_4 v64_4 (w64 (v65_4+1)) (l7003_4++[v15_3]))))))) else some (l3_6.set i13 (some l7003_4)))
def p_cw (K:Nat) (a0:Tw) (l2_2:(List Int)):Nat→Int→(List (Option (List Int)))→Option (List (Option (List Int)))
 | 0,_,_=>none
 | n+1,v58_6,l3_6=>(bif (decide (v58_6 < (a0.next.length:Int))) then (((ixP a0.next v58_6 fun v12=>(bdP l3_6.length v58_6 fun i13=>gtP l3_6 i13 fun v14=>guP (v14.isNone=true) (p_cc K l2_2 v58_6 a0 l3_6 i13 K v12 (v12.length:Int) 0 []))):Option (List (Option (List Int)))).bind fun l3_5=>p_cw K a0 l2_2 n (w64 (v58_6+1)) l3_5) else some l3_6)
def p_e3 (K:Nat) (a0:Tw) (a1:(List Int)):Option ((List (List Int)) × Int) :=
 (bif ((a1.length:Int) != (a0.tokens.length:Int)) then some ([],1) else ((p_el K a0).bind fun r1=>(bif (!r1) then some ([],1) else ((p_e K a1 (fun (x0:Int)=>p_f0 K x0)).bind fun r2=>(bif r2 then some ([],1) else (mkP 8 (w64 ((a0.tokens.length:Int)+1)) fun i3=>((p_cb K a1 K 0 (List.replicate i3 (0:Int)):Option (List Int)).bind fun l2_2=>(mkP 24 (a0.tokens.length:Int) fun i10=>((p_cw K a0 l2_2 K 0 (List.replicate i10 (none:(Option (List Int)))):Option (List (Option (List Int)))).bind fun l3_7=>some ((l3_7.map fun o=>o.getD []),0))))))))))
theorem w_ha {K:Nat}{a0:Tw}{a1:(List Int)}{y:((List (List Int)) × Int)} (hy:p_e3 K a0 a1=some y):Does PP GV 44 [] [(TwA a0),((SL 1 I) a1)] [] [] (.tup [((SL 1 (SL 1 I)) y.1),(I y.2)]):=by
 unfold p_e3 at hy
 refine does_of at44 r (le_ok r)<|?_
 rintro ⟨_,base,w0,F⟩ rfl
 refine reg 3 r<|bx 1 r r r r<|go 2 r<|dn<|reg 4 r<|fa fo32_0 r r r<|ld tk29 r r r r r r<|lnf (f:=I) slB29 r r r<|go 1 r<|dn<|at_seq<|reg 13 r<|go 1 r<|lnf (f:=I) slB29 r r r<|go 3 r<|casH 23 r hy (fun hy=>?_) fun hy=>?_
 ·refine go 8 r<|dn<|cdt r<|rg r<|at_ret<|atnilP ((SL 1 I)) 4 1 r<|?_
  obtain rfl:=sj hy
  exact mR r r (.t r (.t r .nil))
 ·refine ldw tk32 r r r r r r<|bndH hy fun r1 qr1 hy=>clc (w_gT qr1) ca70 r r r<|go 3 r<|casH 28 r hy (fun hy=>?_) fun hy=>?_
  ·refine go 3 r<|dn<|cdt r<|rg r<|at_ret<|atnilP ((SL 1 I)) 4 1 r<|?_
   obtain rfl:=sj hy
   exact mR r r (.t r (.t r .nil))
  ·refine go 1 r<|bndH hy fun r2 qr2 hy=>clp (w_bR (a1h:=fun h=>w_hl h) (a1k:=ca71) (a1l:=⟨r,r⟩) (a1p:=.nil) (a1q:=.nil) qr2) ca40 r r (.cons ((pu_l 1 pu_I) _) (.cons (pu_fn (.nil) (.nil)) (.nil))) (.one (pu_B _)) r<|go 1 r<|dn<|cdH r hy (fun hy=>?_) fun hy=>?_
   ·refine rg r<|at_ret<|atnilP ((SL 1 I)) 4 1 r<|?_
    obtain rfl:=sj hy
    exact mR r r (.t r (.t r .nil))
   ·refine at_skip<|reg 4 r<|go 2 r<|?_
    obtain ⟨i3,qi3,bi3,hy⟩:=mkI hy
    refine mksP (f:=I) 0 2 se29 qi3 bi3 r r r r r r<|go 1 r<|dn<|bkH hy fun o1 hy k1 hk1 hc1=>meetI (fun (p:(List Int) × Nat × Nat)=>match p with | (l2_2,g1_1,g2_1)=>mk [(2,.ptr 1 g1_1 0 0),(6,(I (a0.tokens.length:Int))),(7,.own 2 g2_1 1 0 (l2_2).length false)] [(1,some (g1_1,.buf 3 [.agg [((SL 1 I) a0.tokens),((SL 1 I) a0.heights),((SL 1 (SL 1 I)) a0.next)]])),(2,some (g2_1,.buf 1 (l2_2.map I)))]) (fun p=>match p with | (l2_2,g1_1,g2_1)=>k1 l2_2=some y) ?_ ?_
    ·skip
     refine reg 3 r<|go 1 r<|lnf (f:=I) slB29 r r r<|go 1 r<|dn<|at_block<|wk (T':=[(2,.ptr 1 _ 0 0),(6,(I (a0.tokens.length:Int))),(7,.own 2 _ 1 0 ((List.replicate i3 (0:Int))).length false),(35,((SL 1 I) a1)),(36,(I (a1.length:Int))),(37,(I 0))]) (H':=[(1,some (_,.buf 3 [.agg [((SL 1 I) a0.tokens),((SL 1 I) a0.heights),((SL 1 (SL 1 I)) a0.next)]])),(2,some (_,.buf 1 ((List.replicate i3 (0:Int)).map I)))]) (.k r r (.k r r (.k r r (.k r r (.k r r (.k r r .nil)))))) (.k r r (.k r r .nil))<|loopI (fun (p:Nat × Int × (List Int) × Nat × Nat)=>match p with | (n2,v37_1,l2_1,g1_2,g2_2)=>mk [(2,.ptr 1 g1_2 0 0),(6,(I (a0.tokens.length:Int))),(7,.own 2 g2_2 1 0 (l2_1).length false),(35,((SL 1 I) a1)),(36,(I (a1.length:Int))),(37,(I v37_1))] [(1,some (g1_2,.buf 3 [.agg [((SL 1 I) a0.tokens),((SL 1 I) a0.heights),((SL 1 (SL 1 I)) a0.next)]])),(2,some (g2_2,.buf 1 (l2_1.map I)))]) (fun p=>match p with | (n2,v37_1,l2_1,g1_2,g2_2)=>p_cb K a1 n2 v37_1 l2_1=some o1) (fun p=>p.1) ?_ (K,0,(List.replicate i3 (0:Int)),_,_) hy _
     rintro ⟨n2,v37_1,l2_1,g1_2,g2_2⟩ cl hy
     cases n2 with | zero=>cases hy | succ n2=>?_
     change At _ cl (mk _ _) _
     replace hy:p_cb K a1 (n2+1) v37_1 l2_1=some o1:=hy
     rw [p_cb] at hy
     refine rg r<|at_seq<|cdH r hy (fun hy=>?_) fun hy=>?_
     ·refine at_skip<|at_seq<|at_block<|reg 5 r<|go 1 r<|ixH hy fun i4 v5 qi4 xv5 hy=>fixP (f:=I) sl29 qi4 xv5 r r r r<|fld tk3 r r r r<|go 2 r<|dn<|reg1 11 r<|go 5 r<|bdH hy fun i6 qi6 bi6 hy=>gtH hy fun v7 xv7 hy=>ixP' sl29 qi6 bi6 r r r r<|ldP (f:=I) tk3 xv7 r r r r r<|go 2 r<|bdH hy fun i8 qi8 bi8 hy=>gtH hy fun v9 xv9 hy=>ixP' sl29 qi8 bi8 r r r r<|stP (f:=I) ((w64 (v7+v5))) tk3 xv9 r r r r r r<|dn<|at_bn<|rg1 r<|againI (n2,(w64 (v37_1+1)),(l2_1.set i8 (w64 (v7+v5))),_,_) r hy (Nat.lt_succ_self _) (.k r r (.k r r (.k r (by simp) (.k r r (.k r r (.k r r .nil)))))) (.k r r (.k r r .nil))
     ·exact at_exit<|at_te<|at_te<|at_inBlock<|metI (l2_1,_,_) r (sj2 hy hc1) (.k r r (.k r r (.k r r .nil))) (.k r r (.k r r .nil))
    ·rintro ⟨l2_2,g1_1,g2_1⟩ cl hy
     subst hk1
     change At _ cl (mk _ _) _
     refine reg 3 r<|go 1 r<|?_
     obtain ⟨i10,qi10,bi10,hy⟩:=mkI hy
     refine mksP (f:=(NL 1 I)) none 3 se30 qi10 bi10 r r r r r r<|go 1 r<|dn<|bkH hy fun o3 hy k3 hk3 hc3=>meetI (fun (p:(List (Option (List Int))) × Nat)=>match p with | (l3_7,g3_3)=>mk [(10,.own 3 g3_3 1 0 (l3_7).length false)] [(3,some (g3_3,.buf 1 (l3_7.map (NL 1 I))))]) (fun p=>match p with | (l3_7,g3_3)=>k3 l3_7=some y) ?_ ?_
     ·skip
      refine reg 4 r<|fa fo32_2 r r r<|ld tk30 r r r r r r<|lnf (f:=(SL 1 I)) slB30 r r r<|go 1 r<|dn<|at_block<|wk (T':=[(6,(I (a0.tokens.length:Int))),(7,.own 2 _ 1 0 (l2_2).length false),(10,.own 3 _ 1 0 ((List.replicate i10 (none:(Option (List Int))))).length false),(56,((SL 1 (SL 1 I)) a0.next)),(57,(I (a0.next.length:Int))),(58,(I 0))]) (H':=[(2,some (_,.buf 1 (l2_2.map I))),(3,some (_,.buf 1 ((List.replicate i10 (none:(Option (List Int)))).map (NL 1 I))))]) (.k r r (.k r r (.k r r (.k r r (.k r r (.k r r .nil)))))) (.k r r (.k r r .nil))<|loopI (fun (p:Nat × Int × (List (Option (List Int))) × Nat × Nat)=>match p with | (n4,v58_6,l3_6,g2_4,g3_4)=>mk [(6,(I (a0.tokens.length:Int))),(7,.own 2 g2_4 1 0 (l2_2).length false),(10,.own 3 g3_4 1 0 (l3_6).length false),(56,((SL 1 (SL 1 I)) a0.next)),(57,(I (a0.next.length:Int))),(58,(I v58_6))] [(2,some (g2_4,.buf 1 (l2_2.map I))),(3,some (g3_4,.buf 1 (l3_6.map (NL 1 I))))]) (fun p=>match p with | (n4,v58_6,l3_6,g2_4,g3_4)=>p_cw K a0 l2_2 n4 v58_6 l3_6=some o3) (fun p=>p.1) ?_ (K,0,(List.replicate i10 (none:(Option (List Int)))),_,_) hy _
      rintro ⟨n4,v58_6,l3_6,g2_4,g3_4⟩ cl hy
      cases n4 with | zero=>cases hy | succ n4=>?_
      change At _ cl (mk _ _) _
      replace hy:p_cw K a0 l2_2 (n4+1) v58_6 l3_6=some o3:=hy
      rw [p_cw] at hy
      refine rg r<|at_seq<|cdH r hy (fun hy=>?_) fun hy=>?_
      ·refine at_skip<|bkH hy fun o5 hy k5 hk5 hc5=>meetI (fun (p:(List (Option (List Int))) × Nat × Nat)=>match p with | (l3_5,g2_5,g3_5)=>mk [(6,(I (a0.tokens.length:Int))),(7,.own 2 g2_5 1 0 (l2_2).length false),(10,.own 3 g3_5 1 0 (l3_5).length false),(56,((SL 1 (SL 1 I)) a0.next)),(57,(I (a0.next.length:Int))),(58,(I v58_6))] [(2,some (g2_5,.buf 1 (l2_2.map I))),(3,some (g3_5,.buf 1 (l3_5.map (NL 1 I))))]) (fun p=>match p with | (l3_5,g2_5,g3_5)=>k5 l3_5=some o3) ?_ ?_
       ·skip
        refine at_block<|reg 5 r<|go 1 r<|ixH hy fun i11 v12 qi11 xv12 hy=>fixP (f:=(SL 1 I)) sl30 qi11 xv12 r r r r<|fld tk29 r r r r<|go 2 r<|dn<|reg 3 r<|go 1 r<|lnf (f:=I) slB29 r r r<|go 1 r<|dn<|bdH hy fun i13 qi13 bi13 hy=>gtH hy fun v14 xv14 hy=>guH hy fun nv14 hy=>openR (f:=I) (l:=l3_6) 3 7003 i13 1 r (by rw [xv14,Option.isNone_iff_eq_none.1 nv14]) r<|at_block<|wk (T':=[(6,(I (a0.tokens.length:Int))),(7,.own 2 _ 1 0 (l2_2).length false),(10,.own 3 _ 1 0 (l3_6).length false),(11,(I v58_6)),(56,((SL 1 (SL 1 I)) a0.next)),(57,(I (a0.next.length:Int))),(58,(I v58_6)),(63,((SL 1 I) v12)),(64,(I (v12.length:Int))),(65,(I 0))]) (H':=[(2,some (_,.buf 1 (l2_2.map I))),(3,some (_,.buf 1 ((l3_6.map (NL 1 I)).set i13 (.own 7003 _ 1 0 ([]).length false)))),(7003,some (_,.buf 1 ([].map I)))]) (.k r r (.k r r (.k r r (.k r r (.k r r (.k r r (.k r r (.k r r (.k r r (.k r r .nil)))))))))) (.k r r (.k r r (.k r r .nil)))<|loopI (fun (p:Nat × (List Int) × Int × Int × (List Int) × Nat × Nat × Nat)=>match p with | (n6,v63_4,v64_4,v65_4,l7003_4,g2_6,g3_6,g7003_6)=>mk [(6,(I (a0.tokens.length:Int))),(7,.own 2 g2_6 1 0 (l2_2).length false),(10,.own 3 g3_6 1 0 (l3_6).length false),(11,(I v58_6)),(56,((SL 1 (SL 1 I)) a0.next)),(57,(I (a0.next.length:Int))),(58,(I v58_6)),(63,((SL 1 I) v63_4)),(64,(I v64_4)),(65,(I v65_4))] [(2,some (g2_6,.buf 1 (l2_2.map I))),(3,some (g3_6,.buf 1 ((l3_6.map (NL 1 I)).set i13 (.own 7003 g7003_6 1 0 (l7003_4).length false)))),(7003,some (g7003_6,.buf 1 (l7003_4.map I)))]) (fun p=>match p with | (n6,v63_4,v64_4,v65_4,l7003_4,g2_6,g3_6,g7003_6)=>p_cc K l2_2 v58_6 a0 l3_6 i13 n6 v63_4 v64_4 v65_4 l7003_4=some o5) (fun p=>p.1) ?_ (K,v12,(v12.length:Int),0,[],_,_,_) hy _
        rintro ⟨n6,v63_4,v64_4,v65_4,l7003_4,g2_6,g3_6,g7003_6⟩ cl hy
        cases n6 with | zero=>cases hy | succ n6=>?_
        change At _ cl (mk _ _) _
        replace hy:p_cc K l2_2 v58_6 a0 l3_6 i13 (n6+1) v63_4 v64_4 v65_4 l7003_4=some o5:=hy
        rw [p_cc] at hy
        refine rg r<|at_seq<|cdH r hy (fun hy=>?_) fun hy=>?_
        ·refine at_skip<|at_seq<|at_block<|reg 3 r<|ixH hy fun i15 v16 qi15 xv16 hy=>fixP (f:=I) sl29 qi15 xv16 r r r r<|fld tk3 r r r r<|go 1 r<|dn<|regd mixed 10 r<|go 2 r<|bdH hy fun i17 qi17 bi17 hy=>gtH hy fun v18 xv18 hy=>ixP' sl29 qi17 bi17 r r r r<|ldP (f:=I) tk3 xv18 r r r r r<|go 2 r<|bdH hy fun i19 qi19 bi19 hy=>gtH hy fun v20 xv20 hy=>ixP' sl29 qi19 bi19 r r r r<|ldP (f:=I) tk3 xv20 r r r r r<|go 2 r<|dn ⟨by kernel_rfl,?_⟩
         refine bkH hy fun o7 hy k7 hk7 hc7=>meetI (fun (p:Int × Nat × Nat × Nat)=>match p with | (v15_3,g2_7,g3_7,g7003_7)=>mk [(6,(I (a0.tokens.length:Int))),(7,.own 2 g2_7 1 0 (l2_2).length false),(10,.own 3 g3_7 1 0 (l3_6).length false),(11,(I v58_6)),(15,(I v15_3)),(56,((SL 1 (SL 1 I)) a0.next)),(57,(I (a0.next.length:Int))),(58,(I v58_6)),(63,((SL 1 I) v63_4)),(64,(I v64_4)),(65,(I v65_4))] [(2,some (g2_7,.buf 1 (l2_2.map I))),(3,some (g3_7,.buf 1 ((l3_6.map (NL 1 I)).set i13 (.own 7003 g7003_7 1 0 (l7003_4).length false)))),(7003,some (g7003_7,.buf 1 (l7003_4.map I)))]) (fun p=>match p with | (v15_3,g2_7,g3_7,g7003_7)=>k7 v15_3=some o5) ?_ ?_
         ·skip
          refine rg r<|cdH r hy (fun hy=>?_) fun hy=>?_
          ·exact reg1 7 r<|go 3 r<|bdH hy fun i21 qi21 bi21 hy=>gtH hy fun v22 xv22 hy=>ixP' sl29 qi21 bi21 r r r r<|ldP (f:=I) tk3 xv22 r r r r r<|go 2 r<|dn<|metI ((w64 ((w64 (v18 - v20))+v22)),_,_,_) r (sj2 hy hc7) (.k r r (.k r r (.k r r (.k r r (.k r r (.k r r (.k r r (.k r r (.k r r (.k r r (.k r r .nil))))))))))) (.k r r (.k r r (.k r r .nil)))
          ·exact at_skip<|metI ((w64 (v18 - v20)),_,_,_) r (sj2 hy hc7) (.k r r (.k r r (.k r r (.k r r (.k r r (.k r r (.k r r (.k r r (.k r r (.k r r (.k r r .nil))))))))))) (.k r r (.k r r (.k r r .nil)))
         ·rintro ⟨v15_3,g2_7,g3_7,g7003_7⟩ cl hy
          subst hk7
          change At _ cl (mk _ _) _
          refine reg1 11 r<|go 4 r<|ixP' sl30 qi13 bi13 r r r r<|ldR (f:=I) (l:=l3_6) tk29 bi13 r r r r<|go 1 r<|bldsP I ([v15_3]:List Int) 4 se29 r r r r r r r<|apH hy fun k23a k23b hy=>apoP (f:=I) (l:=l7003_4) (zs:=[v15_3]) se29 k23a k23b r r r r r r<|ixP' sl30 qi13 bi13 r r r r<|stR (f:=I) (l:=l3_6) tk29 bi13 r r r r<|dn<|at_bn<|rg1 r<|againI (n6,v63_4,v64_4,(w64 (v65_4+1)),(l7003_4++[v15_3]),_,_,_) r hy (Nat.lt_succ_self _) (.k r r (.k r r (.k r r (.k r r (.k r r (.k r r (.k r r (.k r r (.k r r (.k r r .nil)))))))))) (.k r r (.k r r (.k r r .nil)))
        ·exact at_exit<|at_te<|at_te<|at_inBlock<|at_bn<|closeR (f:=I) (l:=l3_6) (r:=l7003_4) 3 7003 i13 r bi13 r pu_I r<|metI ((l3_6.set i13 (some l7003_4)),_,_) r (sj2 hy hc5) (.k r r (.k r r (.k r (by simp) (.k r r (.k r r (.k r r .nil)))))) (.k r r (.k r r .nil))
       ·rintro ⟨l3_5,g2_5,g3_5⟩ cl hy
        subst hk5
        change At _ cl (mk _ _) _
        refine rg1 r<|againI (n4,(w64 (v58_6+1)),l3_5,_,_) r hy (Nat.lt_succ_self _) (.k r r (.k r r (.k r r (.k r r (.k r r (.k r r .nil)))))) (.k r r (.k r r .nil))
      ·exact at_exit<|at_te<|at_te<|at_inBlock<|metI (l3_6,_) r (sj2 hy hc3) (.k r r .nil) (.k r r .nil)
     ·rintro ⟨l3_7,g3_3⟩ cl hy
      subst hk3
      change At _ cl (mk _ _) _
      refine rg r<|at_ret<|nslF (f:=I) (l:=l3_7) 3 r<|slotL 4 (m':=(l3_7.map fun o=>o.getD []).length) (by simp) r<|frzP (f:=(SL 1 I)) (l:=(l3_7.map fun o=>o.getD [])) 4 3 r r (pu_l 1 pu_I)<|?_
      obtain rfl:=sj hy
      exact mR r r (.t r (.t r .nil))
def p_cL (K:Nat) (a1:(List Bool)):Nat→Int→(List Int)→Option (List Int)
 | 0,_,_=>none
 | n+1,v14_1,l2_1=>(bif (decide (v14_1 < (a1.length:Int))) then (ixP a1 v14_1 fun v3=>(bif v3 then (bdP l2_1.length v14_1 fun i4=>gtP l2_1 i4 fun v5=>p_cL K a1 n (w64 (v14_1+1)) (l2_1.set i4 1)) else p_cL K a1 n (w64 (v14_1+1)) l2_1)) else some l2_1)
def p_e4 (K:Nat) (a0:Tw) (a1:(List Bool)):Option ((List (List Int)) × Int) :=
 (mkP 8 (a1.length:Int) fun i1=>((p_cL K a1 K 0 (List.replicate i1 (0:Int)):Option (List Int)).bind fun l2_2=>((p_e3 K a0 l2_2).bind fun r6=>some (r6.1,r6.2))))
theorem w_hb {K:Nat}{a0:Tw}{a1:(List Bool)}{y:((List (List Int)) × Int)} (hy:p_e4 K a0 a1=some y):Does PP GV 21 [] [(TwA a0),((SL 1 B) a1)] [] [] (.tup [((SL 1 (SL 1 I)) y.1),(I y.2)]):=by
 unfold p_e4 at hy
 refine does_of at21 r (le_ok r)<|?_
 rintro ⟨_,base,w0,F⟩ rfl
 refine reg 3 r<|bx 1 r r r r<|go 2 r<|dn<|reg 4 r<|go 1 r<|lnf (f:=B) slB66 r r r<|?_
 obtain ⟨i1,qi1,bi1,hy⟩:=mkI hy
 refine mksP (f:=I) 0 2 se29 qi1 bi1 r r r r r r<|go 1 r<|dn<|bkH hy fun o1 hy k1 hk1 hc1=>meetD [2] [1] r r (fun (p:(List Int) × Nat)=>match p with | (l2_2,g2_1)=>([(6,.own 2 g2_1 1 0 (l2_2).length false)],[(2,some (g2_1,.buf 1 (l2_2.map I)))],k1 l2_2=some y)) ?_ ?_
 ·skip
  refine reg 3 r<|go 1 r<|lnf (f:=B) slB66 r r r<|go 1 r<|dn<|at_block<|loopD [2,12,13] [1] r r (fun (p:Nat × Int × (List Int) × Nat)=>match p with | (n2,v14_1,l2_1,g2_2)=>([(6,.own 2 g2_2 1 0 (l2_1).length false),(14,(I v14_1))],[(2,some (g2_2,.buf 1 (l2_1.map I)))],p_cL K a1 n2 v14_1 l2_1=some o1)) (K,0,(List.replicate i1 (0:Int)),_) (lk r) (hk r) hy<|?_
  rintro ⟨n2,v14_1,l2_1,g2_2⟩ cl hy
  obtain _ | n2:=n2;· cases hy
  refine nf r r<|?_
  replace hy:_=some _:=hy
  rw [p_cL] at hy
  refine rg r<|at_seq<|cdH r hy (fun hy=>?_) fun hy=>?_
  ·refine at_skip<|at_seq<|at_block<|reg 5 r<|go 1 r<|ixH hy fun i2 v3 qi2 xv3 hy=>fixP (f:=B) sl66 qi2 xv3 r r r r<|fld tk4 r r r r<|go 2 r<|dn<|rg r<|cdH r hy (fun hy=>?_) fun hy=>?_
   ·refine reg1 4 r<|go 2 r<|bdH hy fun i4 qi4 bi4 hy=>gtH hy fun v5 xv5 hy=>ixP' sl29 qi4 bi4 r r r r<|stP (f:=I) (1) tk3 xv5 r r r r r r<|dn<|at_bn<|rg1 r<|againD (n2,(w64 (v14_1+1)),(l2_1.set i4 1),_) (.k r (by simp) (.j r .nil)) (hk r) r r hy r
   ·refine at_skip<|at_bn<|rg1 r<|againD (n2,(w64 (v14_1+1)),l2_1,_) (lk r) (hk r) r r hy r
  ·exact at_exit<|at_te<|at_te<|at_inBlock<|metD (l2_1,_) (lk r) (hk r) r r (sj2 hy hc1)
 ·rintro ⟨l2_2,g2_1⟩ cl hy
  subst hk1
  refine nf r r<|frzP (f:=I) (l:=l2_2) 6 2 r r pu_I<|reg 7 r<|ldw tk32 r r r r r r<|go 1 r<|bndH hy fun r6 qr6 hy=>clc (w_ha qr6) ca44 r r r<|go 4 r<|dn<|at_ret<|?_
  obtain rfl:=sj hy
  exact mR r r (.t r (.t r .nil))
def p_fm (K:Nat) (a0:(List Int)) (a1:Int):Option Int :=
 (bif (decide (a1 < 0)) then some 0 else (bif ((a0.length:Int) == 0) then some 0 else (nzP (a0.length:Int) ((ixP a0 (Int.tmod a1 (a0.length:Int)) fun v3=>some v3)))))
theorem w_hm {K:Nat}{a0:(List Int)}{a1:Int}{y:Int} (hy:p_fm K a0 a1=some y):Does PP GV 43 [] [((SL 1 (J .u32)) a0),(I a1)] [] [] ((J .u32) y):=by
 unfold p_fm at hy
 refine does_of at43 r (le_ok r)<|?_
 rintro ⟨_,base,w0,F⟩ rfl
 refine rg r<|at_seq<|reg 7 r<|go 3 r<|casH 7 r hy (fun hy=>?_) fun hy=>?_
 ·refine go 4 r<|dn<|cdt r<|rg r<|at_ret<|?_
  obtain rfl:=sj hy
  exact eR r r
 ·refine go 1 r<|lnf (f:=(J .u32)) slB26 r r r<|go 2 r<|dn<|cdH r hy (fun hy=>?_) fun hy=>?_
  ·refine rg r<|at_ret<|?_
   obtain rfl:=sj hy
   exact eR r r
  ·refine at_skip<|reg 8 r<|go 3 r<|lnf (f:=(J .u32)) slB26 r r r<|?_
   obtain ⟨k1,hy⟩:=nzI hy
   refine rm r r r r k1<|ixH hy fun i2 v3 qi2 xv3 hy=>fixP (f:=(J .u32)) sl26 qi2 xv3 r r r r<|fld tk54 r r r r<|go 1 r<|dn<|at_ret<|?_
   obtain rfl:=sj hy
   exact eR r r
def p_cj (K:Nat) (a0:Int):Option Int :=
 (bif (a0 == 0) then some 32 else (bdP 32 (shrV .u32 (IntKind.u32.wrap ((andV .u32 a0 (IntKind.u32.wrap (0 - a0))) * 125613361)) 27) fun i1=>gtP deB32L i1 fun v2=>some (w64 v2)))
theorem w_fF {K:Nat}{a0:Int}{y:Int} (hy:p_cj K a0=some y):Does PP GV 69 [] [((J .u32) a0)] [] [] (I y):=by
 unfold p_cj at hy
 refine does_of at69 r (le_ok r)<|?_
 rintro ⟨_,base,w0,F⟩ rfl
 refine rg r<|at_seq<|rg r<|cdH r hy (fun hy=>?_) fun hy=>?_
 ·refine rg r<|at_ret<|?_
  obtain rfl:=sj hy
  exact eR r r
 ·refine at_skip<|reg 10 r<|go 2 r<|ng r r r<|bn2 r r r r r<|go 1 r<|shr r r r r (by decide)<|bdH hy fun i1 qi1 bi1 hy=>gtH hy fun v2 xv2 hy=>ixG (f:=(J .u8)) (l:=deB32L) (List.Mem.head _) r r ar120 qi1 bi1 xv2 r r r<|fld tk5 r r r r<|rg_conv (gd_of r) (ev_of r) us5 ui3 (lt_ok r)<|go 1 r<|dn<|at_ret<|?_
  obtain rfl:=sj hy
  exact eR r r
def p_dK (K:Nat) (a0:Int):Option Int :=
 ((p_cj K a0).bind fun r1=>some (if 8 < (w64 (r1+1)) then 8 else (w64 (r1+1))))
theorem w_gU {K:Nat}{a0:Int}{y:Int} (hy:p_dK K a0=some y):Does PP GV 42 [] [((J .u32) a0)] [] [] (I y):=by
 unfold p_dK at hy
 refine does_of at42 r (le_ok r)<|?_
 rintro ⟨_,base,w0,F⟩ rfl
 refine rg r<|reg 5 r<|go 1 r<|bndH hy fun r1 qr1 hy=>clc (w_fF qr1) ca69 r r r<|go 1 r<|rg_min (gd_of r) (ev_of r) (ev_of r) (lt_ok r)<|go 1 r<|dn<|at_ret<|?_
 obtain rfl:=sj hy
 exact eR r r
def p_b3 (K:Nat) (a0:(List Int)) (a1:(List Int)):Nat→Int→(List Int)→Option (List Int)
 | 0,_,_=>none
 | n+1,v10_2,l1005_2=>(bif (decide (v10_2 < (a0.length:Int))) then (((ixP a0 v10_2 fun v2=>(bif (decide (v2 < 0)) then (apP 8 l1005_2.length [1].length (some (l1005_2++[1]))) else ((p_fm K a1 v2).bind fun r4=>((p_dK K r4).bind fun r5=>(apP 8 l1005_2.length [r5].length (some (l1005_2++[r5]))))))):Option (List Int)).bind fun l1005_1=>p_b3 K a0 a1 n (w64 (v10_2+1)) l1005_1) else some l1005_2)
def p_dR (K:Nat) (a0:(List Int)) (a1:(List Int)):Option (List Int) :=
 ((p_b3 K a0 a1 K 0 []:Option (List Int)).bind fun l1005_3=>some l1005_3)
theorem w_gG {K:Nat}{a0:(List Int)}{a1:(List Int)}{y:(List Int)} (hy:p_dR K a0 a1=some y):Does PP GV 19 [] [((SL 1 I) a0),((SL 1 (J .u32)) a1)] [] [] ((SL 1 I) y):=by
 unfold p_dR at hy
 refine does_of at19 r (le_ok r)<|?_
 rintro ⟨_,base,w0,F⟩ rfl
 refine rg r<|rg r<|bkH hy fun o1 hy k1 hk1 hc1=>meetD [] [] r r (fun (p:(List Int) × Nat)=>match p with | (l1005_3,g1005_1)=>([(5,.own 1005 g1005_1 1 0 (l1005_3).length false)],[(1005,some (g1005_1,.buf 1 (l1005_3.map I)))],k1 l1005_3=some y)) ?_ ?_
 ·skip
  refine reg 3 r<|go 1 r<|lnf (f:=I) slB29 r r r<|go 1 r<|dn<|at_block<|niloP (I) 5 1005 1 r<|loopD [1,8,9] [] r r (fun (p:Nat × Int × (List Int) × Nat)=>match p with | (n2,v10_2,l1005_2,g1005_2)=>([(5,.own 1005 g1005_2 1 0 (l1005_2).length false),(10,(I v10_2))],[(1005,some (g1005_2,.buf 1 (l1005_2.map I)))],p_b3 K a0 a1 n2 v10_2 l1005_2=some o1)) (K,0,[],_) (lk r) (hk r) hy<|?_
  rintro ⟨n2,v10_2,l1005_2,g1005_2⟩ cl hy
  obtain _ | n2:=n2;· cases hy
  refine nf r r<|?_
  replace hy:_=some _:=hy
  rw [p_b3] at hy
  refine rg r<|at_seq<|cdH r hy (fun hy=>?_) fun hy=>?_
  ·refine at_skip<|bkH hy fun o3 hy k3 hk3 hc3=>meetD [1,8,9,10] [] r r (fun (p:(List Int) × Nat)=>match p with | (l1005_1,g1005_3)=>([(5,.own 1005 g1005_3 1 0 (l1005_1).length false)],[(1005,some (g1005_3,.buf 1 (l1005_1.map I)))],k3 l1005_1=some o1)) ?_ ?_
   ·skip
    refine at_block<|reg 3 r<|ixH hy fun i1 v2 qi1 xv2 hy=>fixP (f:=I) sl29 qi1 xv2 r r r r<|fld tk3 r r r r<|go 1 r<|dn<|at_seq<|rg r<|cdH r hy (fun hy=>?_) fun hy=>?_
    ·exact reg 4 r<|go 1 r<|bldsP I ([1]:List Int) 1 se29 r r r r r r r<|apH hy fun k3a k3b hy=>apoP (f:=I) (l:=l1005_2) (zs:=[1]) se29 k3a k3b r r r r r r<|go 1 r<|dn<|at_exit<|at_te<|at_inBlock<|metD ((l1005_2++[1]),_) (lk r) (hk r) r r (sj2 hy hc3)
    ·exact at_skip<|reg1 8 r<|go 3 r<|bndH hy fun r4 qr4 hy=>clc (w_hm qr4) ca43 r r r<|bndH hy fun r5 qr5 hy=>clc (w_gU qr5) ca42 r r r<|bldsP I ([r5]:List Int) 2 se29 r r r r r r r<|apH hy fun k6a k6b hy=>apoP (f:=I) (l:=l1005_2) (zs:=[r5]) se29 k6a k6b r r r r r r<|go 1 r<|dn<|at_bn<|metD ((l1005_2++[r5]),_) (lk r) (hk r) r r (sj2 hy hc3)
   ·rintro ⟨l1005_1,g1005_3⟩ cl hy
    subst hk3
    refine nf r r<|rg1 r<|againD (n2,(w64 (v10_2+1)),l1005_1,_) (lk r) (hk r) r r hy r
  ·exact at_exit<|at_te<|at_te<|at_inBlock<|metD (l1005_2,_) (lk r) (hk r) r r (sj2 hy hc1)
 ·rintro ⟨l1005_3,g1005_1⟩ cl hy
  subst hk1
  refine nf r r<|rg r<|at_ret<|frzP (f:=I) (l:=l1005_3) 4 1005 r r pu_I<|?_
  obtain rfl:=sj hy
  exact eR r r
def p_ck (K:Nat)  : Nat→Seek_tree_→(List Int)→Int→Int→(List Int)→(List Int)→(List (List Int))→(List Bool)→Option ((List Int) × (List Int) × (List (List Int)) × (List Bool))
 | 0,_,_,_,_,_,_,_,_=>none
 | n+1,v11_1,v43_1,v44_1,v45_1,v2_1,v2_1_1,v2_1_2,l1012_1=>(bif (decide (v45_1 < v44_1)) then (ixP v43_1 v45_1 fun v6=>((p_bx K v11_1 v6).bind fun r7=>(apP 1 l1012_1.length [r7].length (p_ck K  n v11_1 v43_1 v44_1 (w64 (v45_1+1)) v2_1 v2_1_1 v2_1_2 (l1012_1++[r7]))))) else some (v2_1,v2_1_1,v2_1_2,l1012_1))
def p_dw (K:Nat) (a0:Gr) (a1:Int) (a2:Int) (a3:(List Int)):Option (Tw × (List (List Int)) × Int) :=
 ((p_X K a0 a1 a2).bind fun r1=>(bif (r1.2 != 0) then some ((Tw.mk [] [] []),[],r1.2) else (r1.1.bind fun v2=>((p_dR K v2.tokens a3).bind fun r3=>((p_dc K v2.tokens r3).bind fun r4=>((p_ck K  K v2 v2.tokens (v2.tokens.length:Int) 0 r4.1.tokens r4.1.heights r4.1.next []:Option ((List Int) × (List Int) × (List (List Int)) × (List Bool))).bind fun (v2_2,v2_2_1,v2_2_2,l1012_2)=>((p_e4 K (Tw.mk v2_2 v2_2_1 v2_2_2) l1012_2).bind fun r9=>some ((Tw.mk (Tw.mk v2_2 v2_2_1 v2_2_2).tokens (Tw.mk v2_2 v2_2_1 v2_2_2).heights (Tw.mk v2_2 v2_2_1 v2_2_2).next),r9.1,r9.2))))))))
theorem w_gm {K:Nat}{a0:Gr}{a1:Int}{a2:Int}{a3:(List Int)}{y:(Tw × (List (List Int)) × Int)} (hy:p_dw K a0 a1 a2 a3=some y):Does PP GV 7 [] [(GrA a0),(I a1),(I a2),((SL 1 (J .u32)) a3)] [] [] (.tup [(TwA y.1),((SL 1 (SL 1 I)) y.2.1),(I y.2.2)]):=by
 unfold p_dw at hy
 refine does_of at7 r (le_ok r)<|?_
 rintro ⟨_,base,w0,F⟩ rfl
 refine reg 4 r<|bx 1 r r r r<|rg_alloc (s:=2) (gd_of r) zc32 (elems_one (by rfl)) (lt_ok r)<|go 2 r<|dn<|reg 9 r<|ldw tk24 r r r r r r<|go 2 r<|bndH hy fun r1 qr1 hy=>clp (w_fz qr1) ca17 r r (.cons (pu_Gr _) (.cons (pu_I _) (.cons (pu_I _) (.nil)))) (.tup (.cons ((pu_po pu_Seek_tree_) _) (.cons (pu_I _) (.nil)))) r<|go 5 r<|dn<|at_seq<|rg r<|cdH r hy (fun hy=>?_) fun hy=>?_
 ·refine reg 5 r<|bld bd32 r r r r<|go 1 r<|str tk32 r r r r r r r<|go 2 r<|dn<|at_ret<|atnilP ((SL 1 I)) 9 1 r<|cellN I 2 0 1 r r<|cellN I 2 1 1 r r<|cellN (SL 1 I) 2 2 1 r r<|?_
  obtain rfl:=sj hy
  exact mR r r (.c r r r tk32 r (.t r (.t r .nil)))
 ·refine at_skip<|regd mixed 15 r<|go 1 r<|bndH hy fun v2 xv2 hy=>teq 11 (y:=FP Seek_tree_A v2) r (by rw [xv2])<|teq 20 (y:=FP Seek_tree_A v2) r (by rw [xv2])<|teq 27 (y:=FP Seek_tree_A v2) r (by rw [xv2])<|go 1 r<|ffa fo64_1 r r r<|fld tk29 r r r r<|go 2 r<|ffa fo64_1 r r r<|fld tk29 r r r r<|go 1 r<|bndH hy fun r3 qr3 hy=>clc (w_gG qr3) ca19 r r r<|bndH hy fun r4 qr4 hy=>clc (w_gi qr4) ca18 r r r<|go 3 r<|str tk32 r r r r r r r<|dn ⟨by kernel_rfl,?_⟩
  refine rg r<|bkH hy fun o1 hy k1 hk1 hc1=>meetD [] [] r r (fun (p:(List Int) × (List Int) × (List (List Int)) × (List Bool) × Nat × Nat)=>match p with | (v2_2,v2_2_1,v2_2_2,l1012_2,g2_1,g1012_1)=>([(8,.ptr 2 g2_1 0 0),(12,.own 1012 g1012_1 1 0 (l1012_2).length false)],[(2,some (g2_1,.buf 3 [.agg [((SL 1 I) v2_2),((SL 1 I) v2_2_1),((SL 1 (SL 1 I)) v2_2_2)]])),(1012,some (g1012_1,.buf 1 (l1012_2.map B)))],k1 (v2_2,v2_2_1,v2_2_2,l1012_2)=some y)) ?_ ?_
  ·skip
   refine reg 6 r<|go 2 r<|ffa fo64_1 r r r<|fld tk29 r r r r<|lnf (f:=I) slB29 r r r<|go 1 r<|dn<|at_block<|niloP (B) 12 1012 1 r<|loopD [] [] r r (fun (p:Nat × Seek_tree_ × (List Int) × Int × Int × (List Int) × (List Int) × (List (List Int)) × (List Bool) × Nat × Nat)=>match p with | (n2,v11_1,v43_1,v44_1,v45_1,v2_1,v2_1_1,v2_1_2,l1012_1,g2_2,g1012_2)=>([(8,.ptr 2 g2_2 0 0),(11,((FP Seek_tree_A) v11_1)),(12,.own 1012 g1012_2 1 0 (l1012_1).length false),(43,((SL 1 I) v43_1)),(44,(I v44_1)),(45,(I v45_1))],[(2,some (g2_2,.buf 3 [.agg [((SL 1 I) v2_1),((SL 1 I) v2_1_1),((SL 1 (SL 1 I)) v2_1_2)]])),(1012,some (g1012_2,.buf 1 (l1012_1.map B)))],p_ck K  n2 v11_1 v43_1 v44_1 v45_1 v2_1 v2_1_1 v2_1_2 l1012_1=some o1)) (K,v2,v2.tokens,(v2.tokens.length:Int),0,r4.1.tokens,r4.1.heights,r4.1.next,[],_,_) (lk r) (hk r) hy<|?_
   rintro ⟨n2,v11_1,v43_1,v44_1,v45_1,v2_1,v2_1_1,v2_1_2,l1012_1,g2_2,g1012_2⟩ cl hy
   obtain _ | n2:=n2;· cases hy
   refine nf r r<|?_
   replace hy:_=some _:=hy
   rw [p_ck] at hy
   refine rg r<|at_seq<|cdH r hy (fun hy=>?_) fun hy=>?_
   ·refine at_skip<|at_seq<|at_block<|reg 3 r<|ixH hy fun i5 v6 qi5 xv6 hy=>fixP (f:=I) sl29 qi5 xv6 r r r r<|fld tk3 r r r r<|go 1 r<|dn<|reg1 7 r<|go 3 r<|bndH hy fun r7 qr7 hy=>clc (w_fD qr7) ca20 r r r<|bldsP B ([r7]:List Bool) 3 se66 r r r r r r r<|apH hy fun k8a k8b hy=>apoP (f:=B) (l:=l1012_1) (zs:=[r7]) se66 k8a k8b r r r r r r<|go 1 r<|dn<|at_bn<|rg1 r<|againD (n2,v11_1,v43_1,v44_1,(w64 (v45_1+1)),v2_1,v2_1_1,v2_1_2,(l1012_1++[r7]),_,_) (lk r) (hk r) r r hy r
   ·exact at_exit<|at_te<|at_te<|at_inBlock<|metD (v2_1,v2_1_1,v2_1_2,l1012_1,_,_) (lk r) (hk r) r r (sj2 hy hc1)
  ·rintro ⟨v2_2,v2_2_1,v2_2_2,l1012_2,g2_1,g1012_1⟩ cl hy
   subst hk1
   refine nf r r<|frzP (f:=B) (l:=l1012_2) 12 1012 r r pu_B<|reg 8 r<|ldw tk32 r r r r r r<|go 1 r<|bndH hy fun r9 qr9 hy=>clc (w_hb qr9) ca21 r r r<|go 5 r<|dn<|reg 6 r<|ldw tk32 r r r r r r<|go 2 r<|str tk32 r r r r r r r<|go 2 r<|dn<|at_ret<|?_
   obtain rfl:=sj hy
   exact mR r r (.c r r r tk32 r (.t r (.t r .nil)))
def p_fd (K:Nat)  : Option Bool :=
 ((p_eu K (Gr.mk 5 [(Ti.mk 0 1 0 true),(Ti.mk 0 2 0 true),(Ti.mk 1 2 0 false),(Ti.mk 1 3 0 false)]) 2 0).bind fun r1=>((p_eu K (Gr.mk 5 [(Ti.mk 0 1 0 true),(Ti.mk 0 2 0 true),(Ti.mk 1 2 0 false),(Ti.mk 1 3 0 false)]) 3 0).bind fun r2=>((p_eu K (Gr.mk 5 [(Ti.mk 0 1 0 true),(Ti.mk 0 2 0 true),(Ti.mk 1 2 0 false),(Ti.mk 1 3 0 false)]) 4 0).bind fun r3=>((p_fN K (Gr.mk 5 [(Ti.mk 0 1 0 true),(Ti.mk 0 2 0 true),(Ti.mk 1 2 0 false),(Ti.mk 1 3 0 false)]) 0 0).bind fun r4=>((p_dv K (Gr.mk 5 [(Ti.mk 0 1 0 true),(Ti.mk 0 2 0 true),(Ti.mk 1 2 0 false),(Ti.mk 1 3 0 false)]) 0 0 1).bind fun r5=>((p_dw K (Gr.mk 5 [(Ti.mk 0 1 0 true),(Ti.mk 0 2 0 true),(Ti.mk 1 2 0 false),(Ti.mk 1 3 0 false)]) 1 0 [1]).bind fun r6=>((p_eu K (Gr.mk 5 [(Ti.mk 0 1 0 true),(Ti.mk 0 2 0 true),(Ti.mk 1 2 0 false),(Ti.mk 1 3 0 false)]) 5 0).bind fun r7=>((p_fN K (Gr.mk 0 []) 0 0).bind fun r8=>(bif (r1.2 != 0) then some false else (bif (r2.2 != 0) then some false else (bif (r3.2 != 0) then some false else (bif (r4.2 != 0) then some false else (bif (r5.2 != 0) then some false else (bif (r6.2.2 != 0) then some false else (bif (r7.2 != 10) then some false else (bif (r8.2 != 1) then some false else (bif ((r6.2.1.length:Int) != 7) then some false else (bif ((r1.1.found == (Lo.mk true (Ed.mk (Ed.mk 1 3).u (Ed.mk 1 3).v) 2 2).found) && (((r1.1.by_.u == (Lo.mk true (Ed.mk (Ed.mk 1 3).u (Ed.mk 1 3).v) 2 2).by_.u) && ((r1.1.by_.v == (Lo.mk true (Ed.mk (Ed.mk 1 3).u (Ed.mk 1 3).v) 2 2).by_.v) && true)) && ((r1.1.rounds == (Lo.mk true (Ed.mk (Ed.mk 1 3).u (Ed.mk 1 3).v) 2 2).rounds) && ((r1.1.nodes == (Lo.mk true (Ed.mk (Ed.mk 1 3).u (Ed.mk 1 3).v) 2 2).nodes) && true)))) then (bif ((r2.1.found == (Lo.mk true (Ed.mk (Ed.mk 1 3).u (Ed.mk 1 3).v) 1 1).found) && (((r2.1.by_.u == (Lo.mk true (Ed.mk (Ed.mk 1 3).u (Ed.mk 1 3).v) 1 1).by_.u) && ((r2.1.by_.v == (Lo.mk true (Ed.mk (Ed.mk 1 3).u (Ed.mk 1 3).v) 1 1).by_.v) && true)) && ((r2.1.rounds == (Lo.mk true (Ed.mk (Ed.mk 1 3).u (Ed.mk 1 3).v) 1 1).rounds) && ((r2.1.nodes == (Lo.mk true (Ed.mk (Ed.mk 1 3).u (Ed.mk 1 3).v) 1 1).nodes) && true)))) then (bif ((r3.1.found == (Lo.mk false (Ed.mk 0 0) 0 0).found) && (((r3.1.by_.u == (Lo.mk false (Ed.mk 0 0) 0 0).by_.u) && ((r3.1.by_.v == (Lo.mk false (Ed.mk 0 0) 0 0).by_.v) && true)) && ((r3.1.rounds == (Lo.mk false (Ed.mk 0 0) 0 0).rounds) && ((r3.1.nodes == (Lo.mk false (Ed.mk 0 0) 0 0).nodes) && true)))) then ((p_ef K r4.1 [(Ed.mk 1 3)]).bind fun r9=>(bif r9 then ((p_ef K r5.1 [(Ed.mk 1 2)]).bind fun r10=>(bif r10 then ((p_co K r6.1.tokens [0,7,2,15,6,1,10]).bind fun r11=>(bif r11 then (ixP r6.2.1 2 fun v13=>((p_co K v13 [1]).bind fun r14=>(bif r14 then (ixP r6.2.1 5 fun v16=>((p_co K v16 [1]).bind fun r17=>(bif r17 then (ixP r6.2.1 0 fun v19=>((p_co K v19 [0]).bind fun r20=>some r20)) else some false))) else some false))) else some false)) else some false)) else some false)) else some false) else some false) else some false))))))))))))))))))
theorem w_gV {K:Nat}  {y:Bool} (hy:p_fd K=some y):Does PP GV 5 [] [] [] [] (B y):=by
 unfold p_fd at hy
 refine does_of at5 r (le_ok r)<|?_
 rintro ⟨_,base,w0,F⟩ rfl
 refine rg r<|reg 8 r<|bld bd45 r r r r<|bld bd45 r r r r<|bld bd45 r r r r<|bld bd45 r r r r<|bldsP TiA ([(Ti.mk 0 1 0 true),(Ti.mk 0 2 0 true),(Ti.mk 1 2 0 false),(Ti.mk 1 3 0 false)]:List Ti) 1 se22 r r r r r r r<|bld bd24 r r r r<|rg_alloc (s:=2) (gd_of r) zc24 (elems_one (by rfl)) (lt_ok r)<|str tk24 r r r r r r r<|dn<|cellF (f:=TiA) (l:=[(Ti.mk 0 1 0 true),(Ti.mk 0 2 0 true),(Ti.mk 1 2 0 false),(Ti.mk 1 3 0 false)]) 2 1 1 r r r pu_Ti r<|reg 8 r<|ldw tk24 r r r r r r<|bndH hy fun r1 qr1 hy=>clc (w_fA qr1) ca14 r r r<|go 3 r<|rg_alloc (s:=3) (gd_of r) zc50 (elems_one (by rfl)) (lt_ok r)<|str tk50 r r r r r r r<|go 1 r<|dn<|reg 8 r<|ldw tk24 r r r r r r<|bndH hy fun r2 qr2 hy=>clc (w_fA qr2) ca14 r r r<|go 3 r<|rg_alloc (s:=4) (gd_of r) zc50 (elems_one (by rfl)) (lt_ok r)<|str tk50 r r r r r r r<|go 1 r<|dn<|reg 8 r<|ldw tk24 r r r r r r<|bndH hy fun r3 qr3 hy=>clc (w_fA qr3) ca14 r r r<|go 3 r<|rg_alloc (s:=5) (gd_of r) zc50 (elems_one (by rfl)) (lt_ok r)<|str tk50 r r r r r r r<|go 1 r<|dn<|reg 7 r<|ldw tk24 r r r r r r<|bndH hy fun r4 qr4 hy=>clc (w_gE qr4) ca15 r r r<|go 5 r<|dn<|reg 7 r<|ldw tk24 r r r r r r<|bndH hy fun r5 qr5 hy=>clc (w_gl qr5) ca12 r r r<|go 5 r<|dn<|reg 11 r<|ldw tk24 r r r r r r<|bldsF (J .u32) ([1]:List Int) 6 (pu_J _) se26 r r r r r r r<|bndH hy fun r6 qr6 hy=>clc (w_gm qr6) ca7 r r r<|go 4 r<|rg_alloc (s:=7) (gd_of r) zc32 (elems_one (by rfl)) (lt_ok r)<|str tk32 r r r r r r r<|go 2 r<|dn<|reg 8 r<|ldw tk24 r r r r r r<|bndH hy fun r7 qr7 hy=>clc (w_fA qr7) ca14 r r r<|go 3 r<|rg_alloc (s:=8) (gd_of r) zc50 (elems_one (by rfl)) (lt_ok r)<|str tk50 r r r r r r r<|go 1 r<|dn<|reg 7 r<|bldZ bd24 r r r (.same _ _ _ (.list 4 _ _ .nil)) r<|bndH hy fun r8 qr8 hy=>clc (w_gE qr8) ca15 r r r<|go 5 r<|dn<|at_seq<|reg 35 r<|go 3 r<|casH 69 r hy (fun hy=>?_) fun hy=>?_
 ·refine go 32 r<|dn<|cdt r<|rg r<|at_ret<|?_
  obtain rfl:=sj hy
  exact eR r r
 ·refine go 4 r<|casH 73 r hy (fun hy=>?_) fun hy=>?_
  ·refine go 28 r<|dn<|cdt r<|rg r<|at_ret<|?_
   obtain rfl:=sj hy
   exact eR r r
  ·refine go 4 r<|casH 77 r hy (fun hy=>?_) fun hy=>?_
   ·refine go 24 r<|dn<|cdt r<|rg r<|at_ret<|?_
    obtain rfl:=sj hy
    exact eR r r
   ·refine go 4 r<|casH 81 r hy (fun hy=>?_) fun hy=>?_
    ·refine go 20 r<|dn<|cdt r<|rg r<|at_ret<|?_
     obtain rfl:=sj hy
     exact eR r r
    ·refine go 4 r<|casH 85 r hy (fun hy=>?_) fun hy=>?_
     ·refine go 16 r<|dn<|cdt r<|rg r<|at_ret<|?_
      obtain rfl:=sj hy
      exact eR r r
     ·refine go 4 r<|casH 89 r hy (fun hy=>?_) fun hy=>?_
      ·refine go 12 r<|dn<|cdt r<|rg r<|at_ret<|?_
       obtain rfl:=sj hy
       exact eR r r
      ·refine go 4 r<|casH 93 r hy (fun hy=>?_) fun hy=>?_
       ·refine go 8 r<|dn<|cdt r<|rg r<|at_ret<|?_
        obtain rfl:=sj hy
        exact eR r r
       ·refine go 4 r<|casH 97 r hy (fun hy=>?_) fun hy=>?_
        ·refine go 4 r<|dn<|cdt r<|rg r<|at_ret<|?_
         obtain rfl:=sj hy
         exact eR r r
        ·refine go 1 r<|lnf (f:=(SL 1 I)) slB30 r r r<|go 2 r<|dn<|cdH r hy (fun hy=>?_) fun hy=>?_
         ·refine rg r<|at_ret<|?_
          obtain rfl:=sj hy
          exact eR r r
         ·refine at_skip<|reg 55 r<|ldw tk50 r r r r r r<|bld bd47 r r r r<|bld bd50 r r r r<|rg_eqA (gd_of r) (ev_of r) (ev_of r) r r eg50 (ev50 ..) (lt_ok r)<|go 1 r<|casH 106 r hy (fun hy=>?_) fun hy=>?_
          ·refine ldw tk50 r r r r r r<|bld bd47 r r r r<|bld bd50 r r r r<|rg_eqA (gd_of r) (ev_of r) (ev_of r) r r eg50 (ev50 ..) (lt_ok r)<|go 2 r<|casH 112 r hy (fun hy=>?_) fun hy=>?_
           ·refine ldw tk50 r r r r r r<|bld bd50 r r r r<|rg_eqA (gd_of r) (ev_of r) (ev_of r) r r eg50 (ev50 ..) (lt_ok r)<|go 2 r<|casH 117 r hy (fun hy=>?_) fun hy=>?_
            ·refine go 1 r<|bld bd47 r r r r<|bldsF EdA ([(Ed.mk 1 3)]:List Ed) 9 pu_Ed se41 r r r r r r r<|bndH hy fun r9 qr9 hy=>clc (w_f7 qr9) ca13 r r r<|go 2 r<|casH 123 r hy (fun hy=>?_) fun hy=>?_
             ·refine go 1 r<|bld bd47 r r r r<|bldsF EdA ([(Ed.mk 1 2)]:List Ed) 10 pu_Ed se41 r r r r r r r<|bndH hy fun r10 qr10 hy=>clc (w_f7 qr10) ca13 r r r<|go 2 r<|casH 129 r hy (fun hy=>?_) fun hy=>?_
              ·refine fa fo32_0 r r r<|ld tk29 r r r r r r<|bldsF I ([0,7,2,15,6,1,10]:List Int) 11 pu_I se29 r r r r r r r<|bndH hy fun r11 qr11 hy=>clc (w_ee qr11) ca16 r r r<|go 2 r<|casH 135 r hy (fun hy=>?_) fun hy=>?_
               ·refine go 1 r<|ixH hy fun i12 v13 qi12 xv13 hy=>fixP (f:=(SL 1 I)) sl30 qi12 xv13 r r r r<|fld tk29 r r r r<|bldsF I ([1]:List Int) 12 pu_I se29 r r r r r r r<|bndH hy fun r14 qr14 hy=>clc (w_ee qr14) ca16 r r r<|go 2 r<|casH 142 r hy (fun hy=>?_) fun hy=>?_
                ·refine go 1 r<|ixH hy fun i15 v16 qi15 xv16 hy=>fixP (f:=(SL 1 I)) sl30 qi15 xv16 r r r r<|fld tk29 r r r r<|bldsF I ([1]:List Int) 13 pu_I se29 r r r r r r r<|bndH hy fun r17 qr17 hy=>clc (w_ee qr17) ca16 r r r<|go 2 r<|casH 149 r hy (fun hy=>?_) fun hy=>?_
                 ·refine go 1 r<|ixH hy fun i18 v19 qi18 xv19 hy=>fixP (f:=(SL 1 I)) sl30 qi18 xv19 r r r r<|fld tk29 r r r r<|bldsF I ([0]:List Int) 14 pu_I se29 r r r r r r r<|bndH hy fun r20 qr20 hy=>clc (w_ee qr20) ca16 r r r<|go 2 r<|dn<|at_ret<|?_
                  obtain rfl:=sj hy
                  exact eR r r
                 ·refine go 7 r<|dn<|at_ret<|?_
                  obtain rfl:=sj hy
                  exact eR r r
                ·refine go 14 r<|dn<|at_ret<|?_
                 obtain rfl:=sj hy
                 exact eR r r
               ·refine go 21 r<|dn<|at_ret<|?_
                obtain rfl:=sj hy
                exact eR r r
              ·refine go 27 r<|dn<|at_ret<|?_
               obtain rfl:=sj hy
               exact eR r r
             ·refine go 33 r<|dn<|at_ret<|?_
              obtain rfl:=sj hy
              exact eR r r
            ·refine go 39 r<|dn<|at_ret<|?_
             obtain rfl:=sj hy
             exact eR r r
           ·refine go 44 r<|dn<|at_ret<|?_
            obtain rfl:=sj hy
            exact eR r r
          ·refine go 50 r<|dn<|at_ret<|?_
           obtain rfl:=sj hy
           exact eR r r
def p_em (K:Nat) (a0:Gr):Option Bool :=
 (bif (decide ((a0.ties.length:Int) > 30)) then some true else some (decide (a0.n > 12)))
theorem w_gW {K:Nat}{a0:Gr}{y:Bool} (hy:p_em K a0=some y):Does PP GV 6 [] [(GrA a0)] [] [] (B y):=by
 unfold p_em at hy
 refine does_of at6 r (le_ok r)<|?_
 rintro ⟨_,base,w0,F⟩ rfl
 refine reg 2 r<|bx 1 r r r r<|go 1 r<|dn<|reg 10 r<|fa fo24_1 r r r<|ld tk22 r r r r r r<|lnf (f:=TiA) slB22 r r r<|go 2 r<|casH 7 r hy (fun hy=>?_) fun hy=>?_
 ·refine go 5 r<|dn<|at_ret<|?_
  obtain rfl:=sj hy
  exact eR r r
 ·refine fa fo24_0 r r r<|ld tk3 r r r r r r<|go 3 r<|dn<|at_ret<|?_
  obtain rfl:=sj hy
  exact eR r r
def p_cM (K:Nat) (a0:(List (List Int))) (a1:(List (List Int))):Nat→Int→Option (Sum Unit Bool)
 | 0,_=>none
 | n+1,v5_1=>(bif (decide (v5_1 < (a0.length:Int))) then (ixP a0 v5_1 fun v2=>(ixP a1 v5_1 fun v4=>((p_co K v2 v4).bind fun r5=>(bif (!r5) then some (.inr false) else p_cM K a0 a1 n (w64 (v5_1+1)))))) else some (.inl ()))
def p_cZ (K:Nat) (a0:(List (List Int))) (a1:(List (List Int))):Option Bool :=
 (bif ((a0.length:Int) != (a1.length:Int)) then some false else ((p_cM K a0 a1 K 0:Option (Sum Unit Bool)).bind fun | .inl _=>some true | .inr r=>some r))
theorem w_gv {K:Nat}{a0:(List (List Int))}{a1:(List (List Int))}{y:Bool} (hy:p_cZ K a0 a1=some y):Does PP GV 10 [] [((SL 1 (SL 1 I)) a0),((SL 1 (SL 1 I)) a1)] [] [] (B y):=by
 unfold p_cZ at hy
 refine does_of at10 r (le_ok r)<|?_
 rintro ⟨_,base,w0,F⟩ rfl
 refine rg r<|at_seq<|reg 5 r<|go 1 r<|lnf (f:=(SL 1 I)) slB30 r r r<|go 1 r<|lnf (f:=(SL 1 I)) slB30 r r r<|go 1 r<|dn<|cdH r hy (fun hy=>?_) fun hy=>?_
 ·refine rg r<|at_ret<|?_
  obtain rfl:=sj hy
  exact eR r r
 ·refine at_skip<|bkH hy fun o1 hy k1 hk1 hc1=>meetD [] [] r r (fun (p:Unit)=>match p with | _=>([],[],k1 (.inl ())=some y)) ?_ ?_
  ·skip
   refine rg r<|at_block<|loopD [0,1] [] r r (fun (p:Nat × Int)=>match p with | (n2,v5_1)=>([(5,(I v5_1))],[],p_cM K a0 a1 n2 v5_1=some o1)) (K,0) (lk r) .nil hy<|?_
   rintro ⟨n2,v5_1⟩ cl hy
   obtain _ | n2:=n2;· cases hy
   refine nf r r<|?_
   replace hy:_=some _:=hy
   rw [p_cM] at hy
   refine at_seq<|reg 4 r<|go 2 r<|lnf (f:=(SL 1 I)) slB30 r r r<|go 1 r<|dn<|cdH r hy (fun hy=>?_) fun hy=>?_
   ·refine at_skip<|at_seq<|at_block<|regd mixed 10 r<|go 2 r<|ixH hy fun i1 v2 qi1 xv2 hy=>fixP (f:=(SL 1 I)) sl30 qi1 xv2 r r r r<|fld tk29 r r r r<|go 2 r<|ixH hy fun i3 v4 qi3 xv4 hy=>fixP (f:=(SL 1 I)) sl30 qi3 xv4 r r r r<|fld tk29 r r r r<|bndH hy fun r5 qr5 hy=>clc (w_ee qr5) ca16 r r r<|go 1 r<|dn ⟨by kernel_rfl,?_⟩
    refine cdH r hy (fun hy=>?_) fun hy=>?_
    ·refine rg r<|at_ret<|?_
     obtain rfl:=sj hy
     subst hk1;obtain rfl:=sj hc1
     exact eR r r
    ·refine at_skip<|at_bn<|rg1 r<|againD (n2,(w64 (v5_1+1))) (lk r) .nil r r hy r
   ·exact at_exit<|at_te<|at_te<|at_inBlock<|metD () .nil .nil r r (sj2 hy hc1)
  ·rintro ⟨⟩ cl hy
   subst hk1
   refine nf r r<|rg r<|at_ret<|?_
   obtain rfl:=sj hy
   exact eR r r
def p_ei (K:Nat) (a0:Tw) (a1:Tw):Option Bool :=
 ((p_co K a0.tokens a1.tokens).bind fun r1=>(bif r1 then ((p_co K a0.heights a1.heights).bind fun r2=>(bif r2 then ((p_cZ K a0.next a1.next).bind fun r3=>some r3) else some false)) else some false))
theorem w_hj {K:Nat}{a0:Tw}{a1:Tw}{y:Bool} (hy:p_ei K a0 a1=some y):Does PP GV 9 [] [(TwA a0),(TwA a1)] [] [] (B y):=by
 unfold p_ei at hy
 refine does_of at9 r (le_ok r)<|?_
 rintro ⟨_,base,w0,F⟩ rfl
 refine reg 3 r<|bx 1 r r r r<|bx 2 r r r r<|go 1 r<|dn<|reg 20 r<|fa fo32_0 r r r<|ld tk29 r r r r r r<|fa fo32_0 r r r<|ld tk29 r r r r r r<|bndH hy fun r1 qr1 hy=>clc (w_ee qr1) ca16 r r r<|go 1 r<|casH 10 r hy (fun hy=>?_) fun hy=>?_
 ·refine fa fo32_1 r r r<|ld tk29 r r r r r r<|fa fo32_1 r r r<|ld tk29 r r r r r r<|bndH hy fun r2 qr2 hy=>clc (w_ee qr2) ca16 r r r<|go 2 r<|casH 17 r hy (fun hy=>?_) fun hy=>?_
  ·refine fa fo32_2 r r r<|ld tk30 r r r r r r<|fa fo32_2 r r r<|ld tk30 r r r r r r<|bndH hy fun r3 qr3 hy=>clc (w_gv qr3) ca10 r r r<|go 2 r<|dn<|at_ret<|?_
   obtain rfl:=sj hy
   exact eR r r
  ·refine go 7 r<|dn<|at_ret<|?_
   obtain rfl:=sj hy
   exact eR r r
 ·refine go 14 r<|dn<|at_ret<|?_
  obtain rfl:=sj hy
  exact eR r r
def p_bL (K:Nat) (a0:(List Int)) (a1:Int):Nat→Int→Option (Sum Unit Int)
 | 0,_=>none
 | n+1,v5_1=>(bif (decide (v5_1 < (a0.length:Int))) then (ixP a0 v5_1 fun v2=>(bif (v2 == a1) then some (.inr v5_1) else p_bL K a0 a1 n (w64 (v5_1+1)))) else some (.inl ()))
def p_dk (K:Nat) (a0:(List Int)) (a1:Int):Option Int :=
 ((p_bL K a0 a1 K 0:Option (Sum Unit Int)).bind fun | .inl _=>some (-1) | .inr r=>some r)
theorem w_hc {K:Nat}{a0:(List Int)}{a1:Int}{y:Int} (hy:p_dk K a0 a1=some y):Does PP GV 79 [] [((SL 1 I) a0),(I a1)] [] [] (I y):=by
 unfold p_dk at hy
 refine does_of at79 r (le_ok r)<|?_
 rintro ⟨_,base,w0,F⟩ rfl
 refine rg r<|bkH hy fun o1 hy k1 hk1 hc1=>meetD [] [] r r (fun (p:Unit)=>match p with | _=>([],[],k1 (.inl ())=some y)) ?_ ?_
 ·skip
  refine rg r<|at_block<|loopD [0,1] [] r r (fun (p:Nat × Int)=>match p with | (n2,v5_1)=>([(5,(I v5_1))],[],p_bL K a0 a1 n2 v5_1=some o1)) (K,0) (lk r) .nil hy<|?_
  rintro ⟨n2,v5_1⟩ cl hy
  obtain _ | n2:=n2;· cases hy
  refine nf r r<|?_
  replace hy:_=some _:=hy
  rw [p_bL] at hy
  refine at_seq<|reg 4 r<|go 2 r<|lnf (f:=I) slB29 r r r<|go 1 r<|dn<|cdH r hy (fun hy=>?_) fun hy=>?_
  ·refine at_skip<|at_seq<|at_block<|reg 6 r<|go 2 r<|ixH hy fun i1 v2 qi1 xv2 hy=>fixP (f:=I) sl29 qi1 xv2 r r r r<|fld tk3 r r r r<|go 2 r<|dn<|cdH r hy (fun hy=>?_) fun hy=>?_
   ·refine rg r<|at_ret<|?_
    obtain rfl:=sj hy
    subst hk1;obtain rfl:=sj hc1
    exact eR r r
   ·refine at_skip<|at_bn<|rg1 r<|againD (n2,(w64 (v5_1+1))) (lk r) .nil r r hy r
  ·exact at_exit<|at_te<|at_te<|at_inBlock<|metD () .nil .nil r r (sj2 hy hc1)
 ·rintro ⟨⟩ cl hy
  subst hk1
  refine nf r r<|rg r<|at_ret<|?_
  obtain rfl:=sj hy
  exact eR r r
end Go.Ar
namespace Go.Ar
open Go.RowKit
def p_cN (K:Nat) (a0:(List Int)):Nat→Int→Option (Sum Unit Bool)
 | 0,_=>none
 | n+1,v3_1=>(bif (decide (v3_1 < (a0.length:Int))) then (ixP a0 v3_1 fun v2=>(bif (decide (v2 < 0)) then some (.inr false) else (ixP a0 v3_1 fun v4=>(bif (decide (v4 > 10000)) then some (.inr false) else (slP a0 0 v3_1 fun v7=>(ixP a0 v3_1 fun v9=>((p_dk K v7 v9).bind fun r10=>(bif (decide (r10≥0)) then some (.inr false) else p_cN K a0 n (w64 (v3_1+1)))))))))) else some (.inl ()))
def p_dl (K:Nat) (a0:(List Int)):Option Bool :=
 (bif (decide ((a0.length:Int) > 1000)) then some false else ((p_cN K a0 K 0:Option (Sum Unit Bool)).bind fun | .inl _=>some true | .inr r=>some r))
theorem w_hd {K:Nat}{a0:(List Int)}{y:Bool} (hy:p_dl K a0=some y):Does PP GV 48 [] [((SL 1 I) a0)] [] [] (B y):=by
 unfold p_dl at hy
 refine does_of at48 r (le_ok r)<|?_
 rintro ⟨_,base,w0,F⟩ rfl
 refine rg r<|at_seq<|reg 3 r<|go 1 r<|lnf (f:=I) slB29 r r r<|go 1 r<|dn<|cdH r hy (fun hy=>?_) fun hy=>?_
 ·refine rg r<|at_ret<|?_
  obtain rfl:=sj hy
  exact eR r r
 ·refine at_skip<|bkH hy fun o1 hy k1 hk1 hc1=>meetD [] [] r r (fun (p:Unit)=>match p with | _=>([],[],k1 (.inl ())=some y)) ?_ ?_
  ·skip
   refine rg r<|at_block<|loopD [0] [] r r (fun (p:Nat × Int)=>match p with | (n2,v3_1)=>([(3,(I v3_1))],[],p_cN K a0 n2 v3_1=some o1)) (K,0) (lk r) .nil hy<|?_
   rintro ⟨n2,v3_1⟩ cl hy
   obtain _ | n2:=n2;· cases hy
   refine nf r r<|?_
   replace hy:_=some _:=hy
   rw [p_cN] at hy
   refine at_seq<|reg 4 r<|go 2 r<|lnf (f:=I) slB29 r r r<|go 1 r<|dn<|cdH r hy (fun hy=>?_) fun hy=>?_
   ·refine at_skip<|at_seq<|at_block<|regd mixed 23 r<|go 2 r<|ixH hy fun i1 v2 qi1 xv2 hy=>fixP (f:=I) sl29 qi1 xv2 r r r r<|fld tk3 r r r r<|go 2 r<|casH 18 r hy (fun hy=>?_) fun hy=>?_
    ·refine go 17 r<|dn ⟨by kernel_rfl,?_⟩
     refine cdt r<|rg r<|at_ret<|?_
     obtain rfl:=sj hy
     subst hk1;obtain rfl:=sj hc1
     exact eR r r
    ·refine go 2 r<|ixH hy fun i3 v4 qi3 xv4 hy=>fixP (f:=I) sl29 qi3 xv4 r r r r<|fld tk3 r r r r<|go 3 r<|casH 25 r hy (fun hy=>?_) fun hy=>?_
     ·refine go 10 r<|dn ⟨by kernel_rfl,?_⟩
      refine cdt r<|rg r<|at_ret<|?_
      obtain rfl:=sj hy
      subst hk1;obtain rfl:=sj hc1
      exact eR r r
     ·refine go 2 r<|?_
      obtain ⟨i5,i6,qi5,qi6,bi5,ci5,hy⟩:=slI hy
      refine fslhP (f:=I) sl29 qi5 qi6 ci5 r r r r<|?_
      generalize ((List.take i6 a0).drop i5)=v7 at hy ⊢
      refine go 2 r<|ixH hy fun i8 v9 qi8 xv9 hy=>fixP (f:=I) sl29 qi8 xv9 r r r r<|fld tk3 r r r r<|bndH hy fun r10 qr10 hy=>clc (w_hc qr10) ca79 r r r<|go 2 r<|dn ⟨by kernel_rfl,?_⟩
      refine cdH r hy (fun hy=>?_) fun hy=>?_
      ·refine rg r<|at_ret<|?_
       obtain rfl:=sj hy
       subst hk1;obtain rfl:=sj hc1
       exact eR r r
      ·refine at_skip<|at_bn<|rg1 r<|againD (n2,(w64 (v3_1+1))) (lk r) .nil r r hy r
   ·exact at_exit<|at_te<|at_te<|at_inBlock<|metD () .nil .nil r r (sj2 hy hc1)
  ·rintro ⟨⟩ cl hy
   subst hk1
   refine nf r r<|rg r<|at_ret<|?_
   obtain rfl:=sj hy
   exact eR r r
def p_cO (K:Nat) (a0:(List Int)) (a1:(List Int)):Nat→Int→Option (Sum Unit (Tw × Int))
 | 0,_=>none
 | n+1,v7_1=>(bif (decide (v7_1 < (a0.length:Int))) then (ixP a1 v7_1 fun v3=>(bif (decide (v3 < 1)) then some (.inr ((Tw.mk [] [] []),1)) else (ixP a1 v7_1 fun v5=>(bif (decide (v5 > 8)) then some (.inr ((Tw.mk [] [] []),1)) else p_cO K a0 a1 n (w64 (v7_1+1)))))) else some (.inl ()))
def p_cP (K:Nat) (a0:(List Int)) (a1:(List Int)) (v9_9:Int) (v11_6:Int):Nat→Int→Option Int
 | 0,_=>none
 | n+1,v12_3=>(nzP (a0.length:Int) ((ixP a1 (Int.tmod (w64 (v9_9+v12_3)) (a0.length:Int)) fun v12=>(bif (decide (v12≤v11_6)) then p_cP K a0 a1 v9_9 v11_6 n (w64 (v12_3+1)) else some v12_3))))
def p_cx (K:Nat) (a1:(List Int)) (v9_9:Int) (a0:(List Int)):Nat→Int→(List Int)→Option (List Int)
 | 0,_,_=>none
 | n+1,v11_6,l1010_6=>(ixP a1 v9_9 fun v9=>(bif (decide (v11_6 < v9)) then ((((p_cP K a0 a1 v9_9 v11_6 K 1:Option Int).bind fun v12_4=>(nzP (a0.length:Int) ((apP 8 l1010_6.length [(Int.tmod (w64 (v9_9+v12_4)) (a0.length:Int))].length (some (l1010_6++[(Int.tmod (w64 (v9_9+v12_4)) (a0.length:Int))])))))):Option (List Int)).bind fun l1010_5=>p_cx K a1 v9_9 a0 n (w64 (v11_6+1)) l1010_5) else some l1010_6))
def p_cQ (K:Nat) (a0:(List Int)) (a1:(List Int)):Nat→Int→(List (List Int))→Option (List (List Int))
 | 0,_,_=>none
 | n+1,v9_9,l2042_9=>(bif (decide (v9_9 < (a0.length:Int))) then ((((p_cx K a1 v9_9 a0 K 0 []:Option (List Int)).bind fun l1010_7=>(apP 24 l2042_9.length [l1010_7].length (some (l2042_9++[l1010_7])))):Option (List (List Int))).bind fun l2042_8=>p_cQ K a0 a1 n (w64 (v9_9+1)) l2042_8) else some l2042_9)
def p_dU (K:Nat) (a0:(List Int)) (a1:(List Int)):Option (Tw × Int) :=
 ((p_dl K a0).bind fun r1=>(bif (!r1) then some ((Tw.mk [] [] []),1) else (bif ((a0.length:Int) == 0) then some ((Tw.mk [] [] []),1) else (bif ((a1.length:Int) != (a0.length:Int)) then some ((Tw.mk [] [] []),1) else ((p_cO K a0 a1 K 0:Option (Sum Unit (Tw × Int))).bind fun | .inl _=>(apP 8 ([]:List Int).length a0.length ((apP 8 ([]:List Int).length a1.length (((p_cQ K a0 a1 K 0 []:Option (List (List Int))).bind fun l2042_10=>some ((Tw.mk (([]:List Int)++a0) (([]:List Int)++a1) l2042_10),0)))))) | .inr r=>some r)))))
theorem w_he {K:Nat}{a0:(List Int)}{a1:(List Int)}{y:(Tw × Int)} (hy:p_dU K a0 a1=some y):Does PP GV 24 [] [((SL 1 I) a0),((SL 1 I) a1)] [] [] (.tup [(TwA y.1),(I y.2)]):=by
 unfold p_dU at hy
 refine does_of at24 r (le_ok r)<|?_
 rintro ⟨_,base,w0,F⟩ rfl
 refine reg 2 r<|rg_alloc (s:=1) (gd_of r) zc32 (elems_one (by rfl)) (lt_ok r)<|go 1 r<|dn<|reg 3 r<|go 1 r<|lnf (f:=I) slB29 r r r<|go 1 r<|dn<|at_seq<|reg 13 r<|go 1 r<|bndH hy fun r1 qr1 hy=>clc (w_hd qr1) ca48 r r r<|go 2 r<|casH 18 r hy (fun hy=>?_) fun hy=>?_
 ·refine go 9 r<|dn<|cdt r<|reg 3 r<|bld bd32 r r r r<|str tk32 r r r r r r r<|go 1 r<|dn<|at_ret<|cellN I 1 0 1 r r<|cellN I 1 1 1 r r<|cellN (SL 1 I) 1 2 1 r r<|?_
  obtain rfl:=sj hy
  exact mR r r (.c r r r tk32 r (.t r .nil))
 ·refine go 4 r<|casH 22 r hy (fun hy=>?_) fun hy=>?_
  ·refine go 5 r<|dn<|cdt r<|reg 3 r<|bld bd32 r r r r<|str tk32 r r r r r r r<|go 1 r<|dn<|at_ret<|cellN I 1 0 1 r r<|cellN I 1 1 1 r r<|cellN (SL 1 I) 1 2 1 r r<|?_
   obtain rfl:=sj hy
   exact mR r r (.c r r r tk32 r (.t r .nil))
  ·refine go 1 r<|lnf (f:=I) slB29 r r r<|go 3 r<|dn<|cdH r hy (fun hy=>?_) fun hy=>?_
   ·refine reg 3 r<|bld bd32 r r r r<|str tk32 r r r r r r r<|go 1 r<|dn<|at_ret<|cellN I 1 0 1 r r<|cellN I 1 1 1 r r<|cellN (SL 1 I) 1 2 1 r r<|?_
    obtain rfl:=sj hy
    exact mR r r (.c r r r tk32 r (.t r .nil))
   ·refine at_skip<|bkH hy fun o1 hy k1 hk1 hc1=>meetD [0,1,4,6] [1] r r (fun (p:Unit)=>match p with | _=>([],[],k1 (.inl ())=some y)) ?_ ?_
    ·skip
     refine rg r<|at_block<|loopD [0,1,4,6] [1] r r (fun (p:Nat × Int)=>match p with | (n2,v7_1)=>([(7,(I v7_1))],[],p_cO K a0 a1 n2 v7_1=some o1)) (K,0) (lk r) .nil hy<|?_
     rintro ⟨n2,v7_1⟩ cl hy
     obtain _ | n2:=n2;· cases hy
     refine nf r r<|?_
     replace hy:_=some _:=hy
     rw [p_cO] at hy
     refine at_seq<|rg r<|cdH r hy (fun hy=>?_) fun hy=>?_
     ·refine at_skip<|at_seq<|at_block<|reg 12 r<|go 2 r<|ixH hy fun i2 v3 qi2 xv3 hy=>fixP (f:=I) sl29 qi2 xv3 r r r r<|fld tk3 r r r r<|go 2 r<|casH 39 r hy (fun hy=>?_) fun hy=>?_
      ·refine go 6 r<|dn<|cdt r<|reg 3 r<|bld bd32 r r r r<|str tk32 r r r r r r r<|go 1 r<|dn<|at_ret<|cellN I 1 0 1 r r<|cellN I 1 1 1 r r<|cellN (SL 1 I) 1 2 1 r r<|?_
       obtain rfl:=sj hy
       subst hk1;obtain rfl:=sj hc1
       exact mR r r (.c r r r tk32 r (.t r .nil))
      ·refine go 2 r<|ixH hy fun i4 v5 qi4 xv5 hy=>fixP (f:=I) sl29 qi4 xv5 r r r r<|fld tk3 r r r r<|go 2 r<|dn<|cdH r hy (fun hy=>?_) fun hy=>?_
       ·refine reg 3 r<|bld bd32 r r r r<|str tk32 r r r r r r r<|go 1 r<|dn<|at_ret<|cellN I 1 0 1 r r<|cellN I 1 1 1 r r<|cellN (SL 1 I) 1 2 1 r r<|?_
        obtain rfl:=sj hy
        subst hk1;obtain rfl:=sj hc1
        exact mR r r (.c r r r tk32 r (.t r .nil))
       ·refine at_skip<|at_bn<|rg1 r<|againD (n2,(w64 (v7_1+1))) (lk r) .nil r r hy r
     ·exact at_exit<|at_te<|at_te<|at_inBlock<|metD () .nil .nil r r (sj2 hy hc1)
    ·rintro ⟨⟩ cl hy
     subst hk1
     refine nf r r<|reg 9 r<|bldsP I ([]:List Int) 2 se29 r r r r r r r<|go 1 r<|apH hy fun k6a k6b hy=>aplP (f:=I) (l:=([]:List Int)) (zs:=a0) se29 k6a k6b r r r r r<|bldsP I ([]:List Int) 3 se29 r r r r r r r<|go 1 r<|apH hy fun k7a k7b hy=>aplP (f:=I) (l:=([]:List Int)) (zs:=a1) se29 k7a k7b r r r r r<|bld bd32 r r r r<|rg_alloc (s:=4) (gd_of r) zc32 (elems_one (by rfl)) (lt_ok r)<|str tk32 r r r r r r r<|dn<|bkH hy fun o3 hy k3 hk3 hc3=>meetD [4] [1] r r (fun (p:(List (List Int)) × Nat × Nat × Nat × Nat)=>match p with | (l2042_10,g2_3,g3_3,g4_3,g2042_3)=>([(8,.ptr 4 g4_3 0 0)],[(2,some (g2_3,.buf 1 ((([]:List Int)++a0).map I))),(3,some (g3_3,.buf 1 ((([]:List Int)++a1).map I))),(4,some (g4_3,.buf 3 [.agg [.own 2 g2_3 1 0 ((([]:List Int)++a0)).length false,.own 3 g3_3 1 0 ((([]:List Int)++a1)).length false,.own 2042 g2042_3 1 0 (l2042_10).length false]])),(2042,some (g2042_3,.buf 1 (l2042_10.map (SL 1 I))))],k3 l2042_10=some y)) ?_ ?_
     ·skip
      refine rg r<|at_block<|cellO (SL 1 I) 4 2042 2 1 r r r<|loopD [1,4,6] [1] r r (fun (p:Nat × Int × (List (List Int)) × Nat × Nat × Nat × Nat)=>match p with | (n4,v9_9,l2042_9,g2_4,g3_4,g4_4,g2042_4)=>([(8,.ptr 4 g4_4 0 0),(9,(I v9_9))],[(2,some (g2_4,.buf 1 ((([]:List Int)++a0).map I))),(3,some (g3_4,.buf 1 ((([]:List Int)++a1).map I))),(4,some (g4_4,.buf 3 [.agg [.own 2 g2_4 1 0 ((([]:List Int)++a0)).length false,.own 3 g3_4 1 0 ((([]:List Int)++a1)).length false,.own 2042 g2042_4 1 0 (l2042_9).length false]])),(2042,some (g2042_4,.buf 1 (l2042_9.map (SL 1 I))))],p_cQ K a0 a1 n4 v9_9 l2042_9=some o3)) (K,0,[],_,_,_,_) (lk r) (hk r) hy<|?_
      rintro ⟨n4,v9_9,l2042_9,g2_4,g3_4,g4_4,g2042_4⟩ cl hy
      obtain _ | n4:=n4;· cases hy
      refine nf r r<|?_
      replace hy:_=some _:=hy
      rw [p_cQ] at hy
      refine at_seq<|rg r<|cdH r hy (fun hy=>?_) fun hy=>?_
      ·refine at_skip<|bkH hy fun o5 hy k5 hk5 hc5=>meetD [1,4,6,9] [1] r r (fun (p:(List (List Int)) × Nat × Nat × Nat × Nat)=>match p with | (l2042_8,g2_5,g3_5,g4_5,g2042_5)=>([(8,.ptr 4 g4_5 0 0)],[(2,some (g2_5,.buf 1 ((([]:List Int)++a0).map I))),(3,some (g3_5,.buf 1 ((([]:List Int)++a1).map I))),(4,some (g4_5,.buf 3 [.agg [.own 2 g2_5 1 0 ((([]:List Int)++a0)).length false,.own 3 g3_5 1 0 ((([]:List Int)++a1)).length false,.own 2042 g2042_5 1 0 (l2042_8).length false]])),(2042,some (g2042_5,.buf 1 (l2042_8.map (SL 1 I))))],k5 l2042_8=some o3)) ?_ ?_
       ·skip
        refine at_block<|rg r<|bkH hy fun o6 hy k6 hk6 hc6=>meetD [1,4,6,8,9] [1,2,3,4,2042] r r (fun (p:(List Int) × Nat)=>match p with | (l1010_7,g1010_6)=>([(10,.own 1010 g1010_6 1 0 (l1010_7).length false)],[(1010,some (g1010_6,.buf 1 (l1010_7.map I)))],k6 l1010_7=some o5)) ?_ ?_
        ·skip
         refine rg r<|at_block<|niloP (I) 10 1010 1 r<|loopD [1,4,6,8,9] [1,2,3,4,2042] r r (fun (p:Nat × Int × (List Int) × Nat)=>match p with | (n7,v11_6,l1010_6,g1010_7)=>([(10,.own 1010 g1010_7 1 0 (l1010_6).length false),(11,(I v11_6))],[(1010,some (g1010_7,.buf 1 (l1010_6.map I)))],p_cx K a1 v9_9 a0 n7 v11_6 l1010_6=some o6)) (K,0,[],_) (lk r) (hk r) hy<|?_
         rintro ⟨n7,v11_6,l1010_6,g1010_7⟩ cl hy
         obtain _ | n7:=n7;· cases hy
         refine nf r r<|?_
         replace hy:_=some _:=hy
         rw [p_cx] at hy
         refine at_seq<|reg 6 r<|go 3 r<|ixH hy fun i8 v9 qi8 xv9 hy=>fixP (f:=I) sl29 qi8 xv9 r r r r<|fld tk3 r r r r<|go 1 r<|dn<|cdH r hy (fun hy=>?_) fun hy=>?_
         ·refine at_skip<|bkH hy fun o8 hy k8 hk8 hc8=>meetD [1,4,6,8,9,11] [1,2,3,4,2042] r r (fun (p:(List Int) × Nat)=>match p with | (l1010_5,g1010_8)=>([(10,.own 1010 g1010_8 1 0 (l1010_5).length false)],[(1010,some (g1010_8,.buf 1 (l1010_5.map I)))],k8 l1010_5=some o6)) ?_ ?_
          ·skip
           refine at_block<|rg r<|bkH hy fun o9 hy k9 hk9 hc9=>meetD [1,4,6,8,9,10,11] [1,2,3,4,1010,2042] r r (fun (p:Int)=>match p with | v12_4=>([(12,(I v12_4))],[],k9 v12_4=some o8)) ?_ ?_
           ·skip
            refine at_block<|loopD [1,4,6,8,9,10,11] [1,2,3,4,1010,2042] r r (fun (p:Nat × Int)=>match p with | (n10,v12_3)=>([(12,(I v12_3))],[],p_cP K a0 a1 v9_9 v11_6 n10 v12_3=some o9)) (K,1) (lk r) .nil hy<|?_
            rintro ⟨n10,v12_3⟩ cl hy
            obtain _ | n10:=n10;· cases hy
            refine nf r r<|?_
            replace hy:_=some _:=hy
            rw [p_cP] at hy
            refine at_seq<|reg 10 r<|go 5 r<|?_
            obtain ⟨k10,hy⟩:=nzI hy
            refine rm r r r r k10<|ixH hy fun i11 v12 qi11 xv12 hy=>fixP (f:=I) sl29 qi11 xv12 r r r r<|fld tk3 r r r r<|go 2 r<|dn<|cdH r hy (fun hy=>?_) fun hy=>?_
            ·refine at_skip<|at_block<|rg1 r<|at_bn<|againD (n10,(w64 (v12_3+1))) (lk r) .nil r r hy r
            ·exact at_exit<|at_te<|at_te<|at_inBlock<|metD v12_3 (lk r) .nil r r (sj2 hy hc9)
           ·rintro v12_4 cl hy
            subst hk9
            refine nf r r<|reg1 9 r<|go 5 r<|?_
            obtain ⟨k13,hy⟩:=nzI hy
            exact rm r r r r k13<|bldsP I ([(Int.tmod (w64 (v9_9+v12_4)) (a0.length:Int))]:List Int) 5 se29 r r r r r r r<|apH hy fun k14a k14b hy=>apoP (f:=I) (l:=l1010_6) (zs:=[(Int.tmod (w64 (v9_9+v12_4)) (a0.length:Int))]) se29 k14a k14b r r r r r r<|go 1 r<|dn<|at_bn<|metD ((l1010_6++[(Int.tmod (w64 (v9_9+v12_4)) (a0.length:Int))]),_) (lk r) (hk r) r r (sj2 hy hc8)
          ·rintro ⟨l1010_5,g1010_8⟩ cl hy
           subst hk8
           refine nf r r<|rg1 r<|againD (n7,(w64 (v11_6+1)),l1010_5,_) (lk r) (hk r) r r hy r
         ·exact at_exit<|at_te<|at_te<|at_inBlock<|metD (l1010_6,_) (lk r) (hk r) r r (sj2 hy hc6)
        ·rintro ⟨l1010_7,g1010_6⟩ cl hy
         subst hk6
         exact nf r r<|frzP (f:=I) (l:=l1010_7) 10 1010 r r pu_I<|reg1 7 r<|fa fo32_2 r r r<|ld tk30 r r r r r r<|go 1 r<|bldsP (SL 1 I) ([l1010_7]:List (List Int)) 6 se30 r r r r r r r<|apH hy fun k15a k15b hy=>apoP (f:=(SL 1 I)) (l:=l2042_9) (zs:=[l1010_7]) se30 k15a k15b r r r r r r<|fa fo32_2 r r r<|str tk30 r r r r r r r<|dn<|at_bn<|metD ((l2042_9++[l1010_7]),_,_,_,_) (lk r) (hk r) r r (sj2 hy hc5)
       ·rintro ⟨l2042_8,g2_5,g3_5,g4_5,g2042_5⟩ cl hy
        subst hk5
        refine nf r r<|rg1 r<|againD (n4,(w64 (v9_9+1)),l2042_8,_,_,_,_) (lk r) (hk r) r r hy r
      ·exact at_exit<|at_te<|at_te<|at_inBlock<|metD (l2042_9,_,_,_,_) (lk r) (hk r) r r (sj2 hy hc3)
     ·rintro ⟨l2042_10,g2_3,g3_3,g4_3,g2042_3⟩ cl hy
      subst hk3
      refine nf r r<|reg 3 r<|ldw tk32 r r r r r r<|str tk32 r r r r r r r<|go 1 r<|dn<|at_ret<|cellF (f:=I) (l:=(([]:List Int)++a0)) 1 2 0 r r r pu_I r<|cellF (f:=I) (l:=(([]:List Int)++a1)) 1 3 1 r r r pu_I r<|cellF (f:=(SL 1 I)) (l:=l2042_10) 1 2042 2 r r r (pu_l 1 pu_I) r<|?_
      obtain rfl:=sj hy
      exact mR r r (.c r r r tk32 r (.t r .nil))
def p_g4 (K:Nat) (a0:(List Int)) (a1:Int):Option Int :=
 (bif (decide (a1 < 0)) then some 0 else (bif ((a0.length:Int) == 0) then some 0 else (nzP (a0.length:Int) ((ixP a0 (Int.tmod a1 (a0.length:Int)) fun v3=>some v3)))))
def p_gn (K:Nat) (a0:Int) (a1:Int):Option Int :=
 (bif (decide (a1 < 0)) then some 0 else (bif (decide (a1 > 31)) then some 0 else (nnP (IntKind.u64.wrap a1) (some (andV .u32 (shrV .u32 a0 (IntKind.u64.wrap a1)) 1)))))
def p_dS (K:Nat) (a0:Int):Nat→Int→Option Int
 | 0,_=>none
 | n+1,v3_1=>(bif (decide (v3_1 < 8)) then ((p_gn K a0 (w64 (v3_1 - 1))).bind fun r1=>(bif (r1 == 0) then p_dS K a0 n (w64 (v3_1+1)) else some v3_1)) else some v3_1)
def p_fr (K:Nat) (a0:Int):Option Int :=
 ((p_dS K a0 K 1:Option Int).bind fun v3_2=>some v3_2)
def p_dx (K:Nat) (a0:(List Int)) (a1:(List Int)):Nat→Int→(List Int)→Option (List Int)
 | 0,_,_=>none
 | n+1,v6_2,l1005_2=>(bif (decide (v6_2 < (a0.length:Int))) then (((ixP a0 v6_2 fun v2=>(bif (decide (v2≥0)) then (ixP a0 v6_2 fun v4=>((p_g4 K a1 v4).bind fun r5=>((p_fr K r5).bind fun r6=>some r6))) else some 1)):Option Int).bind fun v7_1=>(apP 8 l1005_2.length [v7_1].length (p_dx K a0 a1 n (w64 (v6_2+1)) (l1005_2++[v7_1])))) else some l1005_2)
def p_fH (K:Nat) (a0:(List Int)) (a1:(List Int)):Option (List Int) :=
 ((p_dx K a0 a1 K 0 []:Option (List Int)).bind fun l1005_3=>some l1005_3)
def p_e5 (K:Nat) (a0:Tw):Option Bool :=
 ((p_dU K a0.tokens a0.heights).bind fun r1=>(bif (r1.2 == 0) then ((p_ei K r1.1 a0).bind fun r2=>some r2) else some false))
theorem w_hf {K:Nat}{a0:Tw}{y:Bool} (hy:p_e5 K a0=some y):Does PP GV 81 [] [(TwA a0)] [] [] (B y):=by
 unfold p_e5 at hy
 refine does_of at81 r (le_ok r)<|?_
 rintro ⟨_,base,w0,F⟩ rfl
 refine reg 2 r<|bx 1 r r r r<|go 1 r<|dn<|reg 11 r<|fa fo32_0 r r r<|ld tk29 r r r r r r<|fa fo32_1 r r r<|ld tk29 r r r r r r<|bndH hy fun r1 qr1 hy=>clc (w_he qr1) ca24 r r r<|go 3 r<|rg_alloc (s:=2) (gd_of r) zc32 (elems_one (by rfl)) (lt_ok r)<|str tk32 r r r r r r r<|go 1 r<|dn<|reg 8 r<|go 3 r<|casH 15 r hy (fun hy=>?_) fun hy=>?_
 ·refine ldw tk32 r r r r r r<|ldw tk32 r r r r r r<|bndH hy fun r2 qr2 hy=>clc (w_hj qr2) ca9 r r r<|go 2 r<|dn<|at_ret<|?_
  obtain rfl:=sj hy
  exact eR r r
 ·refine go 5 r<|dn<|at_ret<|?_
  obtain rfl:=sj hy
  exact eR r r
def p_f1 (K:Nat) (a0:Int):Option Bool :=
 (bif (decide (a0≥(-1073741824))) then some (decide (a0≤1073741824)) else some false)
theorem w_hn {K:Nat}{a0:Int}{y:Bool} (hy:p_f1 K a0=some y):Does PP GV 82 [] [(I a0)] [] [] (B y):=by
 unfold p_f1 at hy
 refine does_of at82 r (le_ok r)<|?_
 rintro ⟨_,base,w0,F⟩ rfl
 refine rg r<|reg 7 r<|go 3 r<|casH 5 r hy (fun hy=>?_) fun hy=>?_
 ·refine go 4 r<|dn<|at_ret<|?_
  obtain rfl:=sj hy
  exact eR r r
 ·refine go 4 r<|dn<|at_ret<|?_
  obtain rfl:=sj hy
  exact eR r r
def p_cR (K:Nat) (a0:Tw) (a1:(List Int)):Nat→Int→Option (Sum Unit ((List (List Int)) × Int))
 | 0,_=>none
 | n+1,v7_1=>(bif (decide (v7_1 < (a0.tokens.length:Int))) then (ixP a1 v7_1 fun v3=>((p_f1 K v3).bind fun r4=>(bif (!r4) then some (.inr ([],1)) else p_cR K a0 a1 n (w64 (v7_1+1))))) else some (.inl ()))
def p_cS (K:Nat) (a0:Tw) (v9_9:Int) (v11_6:Int) (a1:(List Int)):Nat→Int→Int→Option Int
 | 0,_,_=>none
 | n+1,v12_3,v13_3=>(ixP a0.next v9_9 fun v11=>(ixP v11 v11_6 fun v13=>(bif (v13_3 != v13) then (ixP a1 v13_3 fun v15=>(nzP (a0.tokens.length:Int) (p_cS K a0 v9_9 v11_6 a1 n (w64 (v12_3+v15)) (Int.tmod (w64 (v13_3+1)) (a0.tokens.length:Int))))) else some v12_3)))
def p_cy (K:Nat) (a0:Tw) (v9_9:Int) (a1:(List Int)):Nat→Int→(List Int)→Option (List Int)
 | 0,_,_=>none
 | n+1,v11_6,l1010_6=>(ixP a0.next v9_9 fun v6=>(bif (decide (v11_6 < (v6.length:Int))) then (((ixP a1 v9_9 fun v8=>(((nzP (a0.tokens.length:Int) (p_cS K a0 v9_9 v11_6 a1 K v8 (Int.tmod (w64 (v9_9+1)) (a0.tokens.length:Int)))):Option Int).bind fun v12_4=>(apP 8 l1010_6.length [v12_4].length (some (l1010_6++[v12_4]))))):Option (List Int)).bind fun l1010_5=>p_cy K a0 v9_9 a1 n (w64 (v11_6+1)) l1010_5) else some l1010_6))
def p_cT (K:Nat) (a0:Tw) (a1:(List Int)):Nat→Int→(List (List Int))→Option (List (List Int))
 | 0,_,_=>none
 | n+1,v9_9,l1008_9=>(bif (decide (v9_9 < (a0.tokens.length:Int))) then ((((p_cy K a0 v9_9 a1 K 0 []:Option (List Int)).bind fun l1010_7=>(apP 24 l1008_9.length [l1010_7].length (some (l1008_9++[l1010_7])))):Option (List (List Int))).bind fun l1008_8=>p_cT K a0 a1 n (w64 (v9_9+1)) l1008_8) else some l1008_9)
def p_ev (K:Nat) (a0:Tw) (a1:(List Int)):Option ((List (List Int)) × Int) :=
 ((p_e5 K a0).bind fun r1=>(bif (!r1) then some ([],1) else (bif ((a1.length:Int) != (a0.tokens.length:Int)) then some ([],1) else ((p_cR K a0 a1 K 0:Option (Sum Unit ((List (List Int)) × Int))).bind fun | .inl _=>((p_cT K a0 a1 K 0 []:Option (List (List Int))).bind fun l1008_10=>some (l1008_10,0)) | .inr r=>some r))))
theorem w_hg {K:Nat}{a0:Tw}{a1:(List Int)}{y:((List (List Int)) × Int)} (hy:p_ev K a0 a1=some y):Does PP GV 52 [] [(TwA a0),((SL 1 I) a1)] [] [] (.tup [((SL 1 (SL 1 I)) y.1),(I y.2)]):=by
 unfold p_ev at hy
 refine does_of at52 r (le_ok r)<|?_
 rintro ⟨_,base,w0,F⟩ rfl
 refine reg 3 r<|bx 1 r r r r<|go 2 r<|dn<|reg 4 r<|fa fo32_0 r r r<|ld tk29 r r r r r r<|lnf (f:=I) slB29 r r r<|go 1 r<|dn<|at_seq<|reg 9 r<|ldw tk32 r r r r r r<|bndH hy fun r1 qr1 hy=>clc (w_hf qr1) ca81 r r r<|go 2 r<|casH 20 r hy (fun hy=>?_) fun hy=>?_
 ·refine go 5 r<|dn<|cdt r<|rg r<|at_ret<|atnilP ((SL 1 I)) 4 1 r<|?_
  obtain rfl:=sj hy
  exact mR r r (.t r (.t r .nil))
 ·refine go 1 r<|lnf (f:=I) slB29 r r r<|go 3 r<|dn<|cdH r hy (fun hy=>?_) fun hy=>?_
  ·refine rg r<|at_ret<|atnilP ((SL 1 I)) 4 1 r<|?_
   obtain rfl:=sj hy
   exact mR r r (.t r (.t r .nil))
  ·refine at_skip<|bkH hy fun o1 hy k1 hk1 hc1=>meetD [1,2,6] [1] r r (fun (p:Unit)=>match p with | _=>([],[],k1 (.inl ())=some y)) ?_ ?_
   ·skip
    refine rg r<|at_block<|loopD [1,2,6] [1] r r (fun (p:Nat × Int)=>match p with | (n2,v7_1)=>([(7,(I v7_1))],[],p_cR K a0 a1 n2 v7_1=some o1)) (K,0) (lk r) .nil hy<|?_
    rintro ⟨n2,v7_1⟩ cl hy
    obtain _ | n2:=n2;· cases hy
    refine nf r r<|?_
    replace hy:_=some _:=hy
    rw [p_cR] at hy
    refine at_seq<|rg r<|cdH r hy (fun hy=>?_) fun hy=>?_
    ·refine at_skip<|at_seq<|at_block<|reg 6 r<|go 2 r<|ixH hy fun i2 v3 qi2 xv3 hy=>fixP (f:=I) sl29 qi2 xv3 r r r r<|fld tk3 r r r r<|bndH hy fun r4 qr4 hy=>clc (w_hn qr4) ca82 r r r<|go 1 r<|dn<|cdH r hy (fun hy=>?_) fun hy=>?_
     ·refine rg r<|at_ret<|atnilP ((SL 1 I)) 4 1 r<|?_
      obtain rfl:=sj hy
      subst hk1;obtain rfl:=sj hc1
      exact mR r r (.t r (.t r .nil))
     ·refine at_skip<|at_bn<|rg1 r<|againD (n2,(w64 (v7_1+1))) (lk r) .nil r r hy r
    ·exact at_exit<|at_te<|at_te<|at_inBlock<|metD () .nil .nil r r (sj2 hy hc1)
   ·rintro ⟨⟩ cl hy
    subst hk1
    refine nf r r<|rg r<|bkH hy fun o3 hy k3 hk3 hc3=>meetD [] [] r r (fun (p:(List (List Int)) × Nat)=>match p with | (l1008_10,g1008_3)=>([(8,.own 1008 g1008_3 1 0 (l1008_10).length false)],[(1008,some (g1008_3,.buf 1 (l1008_10.map (SL 1 I))))],k3 l1008_10=some y)) ?_ ?_
    ·skip
     refine rg r<|at_block<|niloP ((SL 1 I)) 8 1008 1 r<|loopD [1,2,6] [1] r r (fun (p:Nat × Int × (List (List Int)) × Nat)=>match p with | (n4,v9_9,l1008_9,g1008_4)=>([(8,.own 1008 g1008_4 1 0 (l1008_9).length false),(9,(I v9_9))],[(1008,some (g1008_4,.buf 1 (l1008_9.map (SL 1 I))))],p_cT K a0 a1 n4 v9_9 l1008_9=some o3)) (K,0,[],_) (lk r) (hk r) hy<|?_
     rintro ⟨n4,v9_9,l1008_9,g1008_4⟩ cl hy
     obtain _ | n4:=n4;· cases hy
     refine nf r r<|?_
     replace hy:_=some _:=hy
     rw [p_cT] at hy
     refine at_seq<|rg r<|cdH r hy (fun hy=>?_) fun hy=>?_
     ·refine at_skip<|bkH hy fun o5 hy k5 hk5 hc5=>meetD [1,2,6,9] [1] r r (fun (p:(List (List Int)) × Nat)=>match p with | (l1008_8,g1008_5)=>([(8,.own 1008 g1008_5 1 0 (l1008_8).length false)],[(1008,some (g1008_5,.buf 1 (l1008_8.map (SL 1 I))))],k5 l1008_8=some o3)) ?_ ?_
      ·skip
       refine at_block<|rg r<|bkH hy fun o6 hy k6 hk6 hc6=>meetD [1,2,6,8,9] [1,1008] r r (fun (p:(List Int) × Nat)=>match p with | (l1010_7,g1010_6)=>([(10,.own 1010 g1010_6 1 0 (l1010_7).length false)],[(1010,some (g1010_6,.buf 1 (l1010_7.map I)))],k6 l1010_7=some o5)) ?_ ?_
       ·skip
        refine rg r<|at_block<|niloP (I) 10 1010 1 r<|loopD [1,2,6,8,9] [1,1008] r r (fun (p:Nat × Int × (List Int) × Nat)=>match p with | (n7,v11_6,l1010_6,g1010_7)=>([(10,.own 1010 g1010_7 1 0 (l1010_6).length false),(11,(I v11_6))],[(1010,some (g1010_7,.buf 1 (l1010_6.map I)))],p_cy K a0 v9_9 a1 n7 v11_6 l1010_6=some o6)) (K,0,[],_) (lk r) (hk r) hy<|?_
        rintro ⟨n7,v11_6,l1010_6,g1010_7⟩ cl hy
        obtain _ | n7:=n7;· cases hy
        refine nf r r<|?_
        replace hy:_=some _:=hy
        rw [p_cy] at hy
        refine at_seq<|reg 8 r<|go 1 r<|fa fo32_2 r r r<|ld tk30 r r r r r r<|go 1 r<|ixH hy fun i5 v6 qi5 xv6 hy=>fixP (f:=(SL 1 I)) sl30 qi5 xv6 r r r r<|fld tk29 r r r r<|lnf (f:=I) slB29 r r r<|go 1 r<|dn<|cdH r hy (fun hy=>?_) fun hy=>?_
        ·refine at_skip<|bkH hy fun o8 hy k8 hk8 hc8=>meetD [1,2,6,8,9,11] [1,1008] r r (fun (p:(List Int) × Nat)=>match p with | (l1010_5,g1010_8)=>([(10,.own 1010 g1010_8 1 0 (l1010_5).length false)],[(1010,some (g1010_8,.buf 1 (l1010_5.map I)))],k8 l1010_5=some o6)) ?_ ?_
         ·skip
          refine at_block<|reg 5 r<|go 2 r<|ixH hy fun i7 v8 qi7 xv8 hy=>fixP (f:=I) sl29 qi7 xv8 r r r r<|fld tk3 r r r r<|go 1 r<|dn<|bkH hy fun o9 hy k9 hk9 hc9=>meetD [1,2,6,8,9,10,11] [1,1008,1010] r r (fun (p:Int)=>match p with | v12_4=>([(12,(I v12_4))],[],k9 v12_4=some o8)) ?_ ?_
          ·skip
           refine reg 5 r<|go 3 r<|?_
           obtain ⟨k9,hy⟩:=nzI hy
           refine rm r r r r k9<|go 1 r<|dn<|at_block<|loopD [1,2,6,8,9,10,11] [1,1008,1010] r r (fun (p:Nat × Int × Int)=>match p with | (n10,v12_3,v13_3)=>([(12,(I v12_3)),(13,(I v13_3))],[],p_cS K a0 v9_9 v11_6 a1 n10 v12_3 v13_3=some o9)) (K,v8,(Int.tmod (w64 (v9_9+1)) (a0.tokens.length:Int))) (lk r) .nil hy<|?_
           rintro ⟨n10,v12_3,v13_3⟩ cl hy
           obtain _ | n10:=n10;· cases hy
           refine nf r r<|?_
           replace hy:_=some _:=hy
           rw [p_cS] at hy
           refine at_seq<|reg 10 r<|go 1 r<|fa fo32_2 r r r<|ld tk30 r r r r r r<|go 1 r<|ixH hy fun i10 v11 qi10 xv11 hy=>fixP (f:=(SL 1 I)) sl30 qi10 xv11 r r r r<|fld tk29 r r r r<|go 1 r<|ixH hy fun i12 v13 qi12 xv13 hy=>fixP (f:=I) sl29 qi12 xv13 r r r r<|fld tk3 r r r r<|go 1 r<|dn<|cdH r hy (fun hy=>?_) fun hy=>?_
           ·refine at_skip<|at_seq<|at_block<|reg1 7 r<|go 3 r<|ixH hy fun i14 v15 qi14 xv15 hy=>fixP (f:=I) sl29 qi14 xv15 r r r r<|fld tk3 r r r r<|go 2 r<|dn<|at_bn<|reg1 5 r<|go 3 r<|?_
            obtain ⟨k16,hy⟩:=nzI hy
            refine rm r r r r k16<|go 1 r<|dn<|againD (n10,(w64 (v12_3+v15)),(Int.tmod (w64 (v13_3+1)) (a0.tokens.length:Int))) (lk r) .nil r r hy r
           ·exact at_exit<|at_te<|at_te<|at_inBlock<|metD v12_3 (lk r) .nil r r (sj2 hy hc9)
          ·rintro v12_4 cl hy
           subst hk9
           exact nf r r<|reg1 5 r<|go 2 r<|bldsP I ([v12_4]:List Int) 2 se29 r r r r r r r<|apH hy fun k17a k17b hy=>apoP (f:=I) (l:=l1010_6) (zs:=[v12_4]) se29 k17a k17b r r r r r r<|go 1 r<|dn<|at_bn<|metD ((l1010_6++[v12_4]),_) (lk r) (hk r) r r (sj2 hy hc8)
         ·rintro ⟨l1010_5,g1010_8⟩ cl hy
          subst hk8
          refine nf r r<|rg1 r<|againD (n7,(w64 (v11_6+1)),l1010_5,_) (lk r) (hk r) r r hy r
        ·exact at_exit<|at_te<|at_te<|at_inBlock<|metD (l1010_6,_) (lk r) (hk r) r r (sj2 hy hc6)
       ·rintro ⟨l1010_7,g1010_6⟩ cl hy
        subst hk6
        exact nf r r<|frzP (f:=I) (l:=l1010_7) 10 1010 r r pu_I<|reg1 5 r<|go 2 r<|bldsP (SL 1 I) ([l1010_7]:List (List Int)) 3 se30 r r r r r r r<|apH hy fun k18a k18b hy=>apoP (f:=(SL 1 I)) (l:=l1008_9) (zs:=[l1010_7]) se30 k18a k18b r r r r r r<|go 1 r<|dn<|at_bn<|metD ((l1008_9++[l1010_7]),_) (lk r) (hk r) r r (sj2 hy hc5)
      ·rintro ⟨l1008_8,g1008_5⟩ cl hy
       subst hk5
       refine nf r r<|rg1 r<|againD (n4,(w64 (v9_9+1)),l1008_8,_) (lk r) (hk r) r r hy r
     ·exact at_exit<|at_te<|at_te<|at_inBlock<|metD (l1008_9,_) (lk r) (hk r) r r (sj2 hy hc3)
    ·rintro ⟨l1008_10,g1008_3⟩ cl hy
     subst hk3
     refine nf r r<|rg r<|at_ret<|frzP (f:=(SL 1 I)) (l:=l1008_10) 4 1008 r r (pu_l 1 pu_I)<|?_
     obtain rfl:=sj hy
     exact mR r r (.t r (.t r .nil))
def p_cp (K:Nat) (a1:(List Bool)):Nat→Int→(List Int)→Option (List Int)
 | 0,_,_=>none
 | n+1,v7_1,l2_1=>(bif (decide (v7_1 < (a1.length:Int))) then (ixP a1 v7_1 fun v3=>(bif v3 then (bdP l2_1.length v7_1 fun i4=>gtP l2_1 i4 fun v5=>p_cp K a1 n (w64 (v7_1+1)) (l2_1.set i4 1)) else p_cp K a1 n (w64 (v7_1+1)) l2_1)) else some l2_1)
def p_f9 (K:Nat) (a0:Tw) (a1:(List Bool)):Option ((List (List Int)) × Int) :=
 (mkP 8 (a1.length:Int) fun i1=>((p_cp K a1 K 0 (List.replicate i1 (0:Int)):Option (List Int)).bind fun l2_2=>((p_ev K a0 l2_2).bind fun r6=>some (r6.1,r6.2))))
def p_fs (K:Nat) (a0:(List Int)) (a1:Int):Option ((List Int) × Bool) :=
 ((p_dk K a0 a1).bind fun r1=>((p_dl K a0).bind fun r2=>(bif (!r2) then some ([],false) else (bif (decide (r1 < 0)) then some ([],false) else (slP a0 r1 a0.length fun v5=>(apP 8 ([]:List Int).length v5.length ((slP a0 0 r1 fun v9=>(apP 8 (([]:List Int)++v5).length v9.length (some (((([]:List Int)++v5)++v9),true)))))))))))
def p_dp (K:Nat) (a0:(List Int)):Nat→Int→Int→Option Int
 | 0,_,_=>none
 | n+1,v3_1,v4_1=>(bif (decide (v4_1 < (a0.length:Int))) then (ixP a0 v4_1 fun v5=>p_dp K a0 n (if v5 < v3_1 then v5 else v3_1) (w64 (v4_1+1))) else some v3_1)
def p_ew (K:Nat) (a0:(List Int)):Option (List Int) :=
 ((p_dl K a0).bind fun r1=>(bif (!r1) then some [] else (bif ((a0.length:Int) == 0) then some [] else (ixP a0 0 fun v3=>((p_dp K a0 K v3 0:Option Int).bind fun v3_2=>((p_fs K a0 v3_2).bind fun r6=>some r6.1))))))
def p_dy (K:Nat) (a0:Int) (a1:Int):Option Bool :=
 (bif (decide (a0≥1)) then (bif (decide (a0≤64)) then (bif (decide (a1≥0)) then some (decide (a1 < a0)) else some false) else some false) else some false)
def p_fG (K:Nat) (a0:Int) (a1:Int) (a2:Int):Option Int :=
 ((p_dy K a0 a1).bind fun r1=>(bif (!r1) then some (-1) else ((p_dy K a0 a2).bind fun r2=>(bif (!r2) then some (-1) else (bif (a1 == a2) then some (-1) else some (w64 ((w64 (a0+(w64 (a1 * a0))))+a2)))))))
def p_fB (K:Nat) (a0:Int) (a1:Int):Option (Int × Int × Bool × Bool) :=
 ((p_dy K a0 a1).bind fun r1=>(bif r1 then some (a1,0,false,true) else (bif (decide (a0 < 1)) then some (0,0,false,false) else (bif (decide (a0 > 64)) then some (0,0,false,false) else (bif (decide (a1 < a0)) then some (0,0,false,false) else (bif (decide (a1≥(w64 (a0+(w64 (a0 * a0)))))) then some (0,0,false,false) else (nzP a0 ((nzP a0 ((bif ((w64 (Int.tdiv (w64 (a1 - a0)) a0)) == (Int.tmod (w64 (a1 - a0)) a0)) then some (0,0,false,false) else some ((w64 (Int.tdiv (w64 (a1 - a0)) a0)),(Int.tmod (w64 (a1 - a0)) a0),true,true))))))))))))
def p_fV (K:Nat) (a0:Int) (a1:Int) (a2:Int):Option Bool :=
 ((p_fB K a0 a1).bind fun r1=>(bif r1.2.2.2 then (bif (!r1.2.2.1) then (bif (r1.1 == a2) then some true else (bif r1.2.2.1 then some (r1.2.1 == a2) else some false)) else (bif r1.2.2.1 then some (r1.2.1 == a2) else some false)) else some false))
end Go.Ar
namespace Go.Ar
open Go.RowKit
def p_dL (K:Nat) (v1_4:(List Int)) (v6_4:Int):Nat→Int→(List Int)→Option (List Int)
 | 0,_,_=>none
 | n+1,v15_5,l1014_5=>(bif (decide (v15_5 < (v1_4.length:Int))) then (nzP (v1_4.length:Int) ((ixP v1_4 (Int.tmod (w64 (v6_4+v15_5)) (v1_4.length:Int)) fun v18=>(apP 8 l1014_5.length [v18].length (p_dL K v1_4 v6_4 n (w64 (v15_5+1)) (l1014_5++[v18])))))) else some l1014_5)
def p_dd (K:Nat) (a0:Int):Nat→(List Int)→Bool→Int→Option ((List Int) × Bool)
 | 0,_,_,_=>none
 | n+1,v1_4,v5_4,v6_4=>(bif (decide (v6_4 < (v1_4.length:Int))) then (bif (!v5_4) then (((ixP v1_4 v6_4 fun v3=>(nzP (v1_4.length:Int) ((ixP v1_4 (Int.tmod (w64 (v6_4+1)) (v1_4.length:Int)) fun v6=>(nzP (v1_4.length:Int) ((ixP v1_4 (Int.tmod (w64 (v6_4+2)) (v1_4.length:Int)) fun v9=>((p_fB K a0 v3).bind fun r10=>(bif (decide ((v1_4.length:Int)≥4)) then (bif r10.2.2.2 then (bif r10.2.2.1 then (bif (v6 == r10.2.1) then ((p_fG K a0 r10.2.1 r10.1).bind fun r11=>(bif (v9 == r11) then (nzP (v1_4.length:Int) ((ixP v1_4 (Int.tmod (w64 ((w64 (v6_4+(v1_4.length:Int))) - 1)) (v1_4.length:Int)) fun v14=>((p_fV K a0 v14 r10.1).bind fun r15=>(bif r15 then ((p_dL K v1_4 v6_4 K 3 []:Option (List Int)).bind fun l1014_6=>some (l1014_6,true)) else some (v1_4,v5_4)))))) else some (v1_4,v5_4))) else some (v1_4,v5_4)) else some (v1_4,v5_4)) else some (v1_4,v5_4)) else some (v1_4,v5_4)))))))))):Option ((List Int) × Bool)).bind fun (v1_7,v5_7)=>p_dd K a0 n v1_7 v5_7 (w64 (v6_4+1))) else some (v1_4,v5_4)) else some (v1_4,v5_4))
def p_fe (K:Nat) (a0:Int):Nat→(List Int)→Option (Sum (List Int) Bool)
 | 0,_=>none
 | n+1,v1_10=>(bif (decide ((v1_10.length:Int) > 1)) then ((((p_dd K a0 K v1_10 false 0:Option ((List Int) × Bool)).bind fun (v1_8,v5_8)=>(bif (!v5_8) then some (.inr (.inr false)) else some (.inl v1_8))):Option (Sum (List Int) (Sum (List Int) Bool))).bind fun | .inl v1_9=>p_fe K a0 n v1_9 | .inr r=>some r) else some (.inl v1_10))
def p_ga (K:Nat) (a0:Int) (a1:(List Int)):Option Bool :=
 (apP 8 ([]:List Int).length a1.length (((p_fe K a0 K (([]:List Int)++a1):Option (Sum (List Int) Bool)).bind fun | .inl v1_11=>(bif ((v1_11.length:Int) == 1) then (ixP v1_11 0 fun v21=>((p_dy K a0 v21).bind fun r22=>some r22)) else some false) | .inr r=>some r)))
def p_dq (K:Nat) (a0:Fo):Nat→Int→Int→(List Int)→Int→(List Bool)→Option (Sum (Int × Int × (List Bool)) (Sum Int Bool))
 | 0,_,_,_,_,_=>none
 | n+1,v4_1,v5_1,v7_1,v8_1,l2_1=>(bif (decide (v8_1 < (v7_1.length:Int))) then (ixP v7_1 v8_1 fun v13=>(bif (decide (v13 < a0.n)) then (ixP v7_1 v8_1 fun v15=>(bdP l2_1.length v15 fun i16=>gtP l2_1 i16 fun v17=>(bif v17 then some (.inr (.inr false)) else (ixP v7_1 v8_1 fun v19=>(bdP l2_1.length v19 fun i20=>gtP l2_1 i20 fun v21=>p_dq K a0 n v4_1 (w64 (v5_1+1)) v7_1 (w64 (v8_1+1)) (l2_1.set i20 true)))))) else p_dq K a0 n v4_1 v5_1 v7_1 (w64 (v8_1+1)) l2_1)) else some (.inl (v4_1,v5_1,l2_1)))
def p_d3 (K:Nat) (a0:Fo):Nat→Int→Int→Int→(List Bool)→Option (Sum Int Bool)
 | 0,_,_,_,_=>none
 | n+1,v4_3,v5_3,v6_3,l2_3=>(bif (decide (v6_3 < (a0.rings.length:Int))) then (((ixP a0.rings v6_3 fun v3=>((p_dl K v3).bind fun r4=>(bif (!r4) then some (.inr (.inr false)) else (bif ((v3.length:Int) == 0) then some (.inr (.inr false)) else ((p_ga K a0.n v3).bind fun r5=>(bif (!r5) then some (.inr (.inr false)) else ((p_ew K v3).bind fun r6=>((p_cZ K [r6] [v3]).bind fun r7=>(bif (!r7) then some (.inr (.inr false)) else (ixP v3 0 fun v9=>(bif (decide (v9≤v4_3)) then some (.inr (.inr false)) else (ixP v3 0 fun v11=>p_dq K a0 K v11 v5_3 v3 0 l2_3)))))))))))):Option (Sum (Int × Int × (List Bool)) (Sum Int Bool))).bind fun | .inl (v4_2,v5_2,l2_2)=>p_d3 K a0 n v4_2 v5_2 (w64 (v6_3+1)) l2_2 | .inr r=>some r) else some (.inl v5_3))
def p_e6 (K:Nat) (a0:Fo):Option Bool :=
 (bif (decide (a0.n < 1)) then some false else (bif (decide (a0.n > 64)) then some false else (bif (decide ((a0.rings.length:Int) > a0.n)) then some false else (mkP 1 a0.n fun i1=>((p_d3 K a0 K (-1) 0 0 (List.replicate i1 (false:Bool)):Option (Sum Int Bool)).bind fun | .inl v5_4=>some (v5_4 == a0.n) | .inr r=>some r)))))
def p_d4 (K:Nat) (a0:Fo) (a1:Int):Nat→Int→Option (Sum Unit Int)
 | 0,_=>none
 | n+1,v5_1=>(bif (decide (v5_1 < (a0.rings.length:Int))) then (ixP a0.rings v5_1 fun v2=>((p_dk K v2 a1).bind fun r3=>(bif (decide (r3≥0)) then some (.inr v5_1) else p_d4 K a0 a1 n (w64 (v5_1+1))))) else some (.inl ()))
def p_dV (K:Nat) (a0:Fo) (a1:Int):Option Int :=
 ((p_d4 K a0 a1 K 0:Option (Sum Unit Int)).bind fun | .inl _=>some (-1) | .inr r=>some r)
def p_gz (K:Nat) (a0:Fo) (a1:Int):Option Int :=
 ((p_e6 K a0).bind fun r1=>(bif (!r1) then some (-1) else ((p_dy K a0.n a1).bind fun r2=>(bif (!r2) then some (-1) else ((p_dV K a0 a1).bind fun r3=>some r3)))))
def p_en (K:Nat) (a0:Int):Nat→Int→(List (List Int))→Option (List (List Int))
 | 0,_,_=>none
 | n+1,v5_1,l2021_1=>(bif (decide (v5_1 < a0)) then (apP 24 l2021_1.length [[v5_1]].length (p_en K a0 n (w64 (v5_1+1)) (l2021_1++[[v5_1]]))) else some l2021_1)
def p_gb (K:Nat) (a0:Int):Option (Fo × Int) :=
 (bif (decide (a0 < 1)) then some ((Fo.mk 0 []),1) else (bif (decide (a0 > 64)) then some ((Fo.mk 0 []),1) else ((p_en K a0 K 0 []:Option (List (List Int))).bind fun l2021_2=>some ((Fo.mk a0 l2021_2),0))))
def p_eL (K:Nat) (a0:(List (List Int))):Nat→(List Int)→Int→Option ((List Int) × Int)
 | 0,_,_=>none
 | n+1,v1_1,v5_1=>(bif (decide (v5_1 < (a0.length:Int))) then (ixP a0 v5_1 fun v3=>(ixP v3 0 fun v5=>(ixP v1_1 0 fun v7=>(bif (decide (v5 < v7)) then p_eL K a0 n v1_1 (w64 (v5_1+1)) else some (v1_1,v5_1))))) else some (v1_1,v5_1))
def p_go (K:Nat) (a0:(List (List Int))) (a1:(List Int)):Option (List (List Int)) :=
 ((p_ew K a1).bind fun r1=>((p_eL K a0 K r1 0:Option ((List Int) × Int)).bind fun (v1_2,v5_2)=>(slP a0 0 v5_2 fun v10=>(apP 24 ([]:List (List Int)).length v10.length ((apP 24 (([]:List (List Int))++v10).length [v1_2].length ((slP a0 v5_2 a0.length fun v15=>(apP 24 ((([]:List (List Int))++v10)++[v1_2]).length v15.length (some (((([]:List (List Int))++v10)++[v1_2])++v15)))))))))))
def p_ff (K:Nat) (a0:(List (List Int))) (a1:Int):Option (List (List Int)) :=
 (slP a0 0 a1 fun v3=>(apP 24 ([]:List (List Int)).length v3.length ((slP a0 (w64 (a1+1)) a0.length fun v7=>(apP 24 (([]:List (List Int))++v3).length v7.length (some ((([]:List (List Int))++v3)++v7)))))))
def p_gc (K:Nat) (a0:Fo) (a1:Int) (a2:Int):Option (Fo × Int) :=
 ((p_e6 K a0).bind fun r1=>(bif (!r1) then some (a0,1) else ((p_dy K a0.n a1).bind fun r2=>(bif (!r2) then some (a0,10) else ((p_dy K a0.n a2).bind fun r3=>(bif (!r3) then some (a0,10) else ((p_dV K a0 a1).bind fun r4=>((p_dV K a0 a2).bind fun r5=>(bif (r4 == r5) then some (a0,5) else ((p_dV K a0 a1).bind fun r6=>((p_dV K a0 a2).bind fun r7=>(ixP a0.rings r6 fun v9=>((p_fs K v9 a1).bind fun r10=>(ixP a0.rings r7 fun v12=>((p_fs K v12 a2).bind fun r13=>((p_fG K a0.n a1 a2).bind fun r14=>(apP 8 [a1,r14].length r13.1.length (((p_fG K a0.n a2 a1).bind fun r16=>(apP 8 ([a1,r14]++r13.1).length [r16].length ((slP r10.1 1 r10.1.length fun v20=>(apP 8 (([a1,r14]++r13.1)++[r16]).length v20.length (((p_ff K a0.rings (if r6 < r7 then r7 else r6)).bind fun r22=>((p_ff K r22 (if r7 < r6 then r7 else r6)).bind fun r23=>((p_go K r23 ((([a1,r14]++r13.1)++[r16])++v20)).bind fun r24=>some ((Fo.mk (Fo.mk a0.n r24).n (Fo.mk a0.n r24).rings),0))))))))))))))))))))))))))))
def p_d5 (K:Nat) (a1:(List Ed)) (a0:Fo):Nat→Int→Option (Sum Unit Int)
 | 0,_=>none
 | n+1,v5_1=>(bif (decide (v5_1 < (a1.length:Int))) then (ixP a1 v5_1 fun v3=>(bif (decide (v3.u < 0)) then some (.inr 10) else (ixP a1 v5_1 fun v5=>(bif (decide (v5.u≥a0.n)) then some (.inr 10) else (ixP a1 v5_1 fun v7=>(bif (decide (v7.v < 0)) then some (.inr 10) else (ixP a1 v5_1 fun v9=>(bif (decide (v9.v≥a0.n)) then some (.inr 10) else p_d5 K a1 a0 n (w64 (v5_1+1)))))))))) else some (.inl ()))
def p_f2 (K:Nat) (a0:Fo) (a1:(List Ed)):Option Int :=
 ((p_e6 K a0).bind fun r1=>(bif (!r1) then some 1 else ((p_d5 K a1 a0 K 0:Option (Sum Unit Int)).bind fun | .inl _=>some 0 | .inr r=>some r)))
def p_d6 (K:Nat) (a1:(List Ed)):Nat→Int→Int→(List (List Int))→(List Bool)→Option (Int × (List (List Int)) × (List Bool))
 | 0,_,_,_,_=>none
 | n+1,v9_1,v1_1,v1_1_1,l1008_1=>(bif (decide (v9_1 < (a1.length:Int))) then (ixP a1 v9_1 fun v3=>(ixP a1 v9_1 fun v5=>((p_gc K (Fo.mk v1_1 v1_1_1) v3.u v5.v).bind fun r6=>(apP 1 l1008_1.length [(r6.2 == 0)].length (p_d6 K a1 n (w64 (v9_1+1)) r6.1.n r6.1.rings (l1008_1++[(r6.2 == 0)])))))) else some (v1_1,v1_1_1,l1008_1))
def p_gw (K:Nat) (a0:Fo) (a1:(List Ed)):Option (Fo × (List Bool) × Int) :=
 ((p_f2 K a0 a1).bind fun r1=>(bif (r1 != 0) then some (a0,[],r1) else ((p_d6 K a1 K 0 a0.n a0.rings []:Option (Int × (List (List Int)) × (List Bool))).bind fun (v1_2,v1_2_1,l1008_2)=>some ((Fo.mk (Fo.mk v1_2 v1_2_1).n (Fo.mk v1_2 v1_2_1).rings),l1008_2,0))))
def p_gA (K:Nat) (a0:Int) (a1:(List Ed)):Option (Fo × Int) :=
 ((p_gb K a0).bind fun r1=>(bif (r1.2 != 0) then some ((Fo.mk 0 []),r1.2) else ((p_gw K r1.1 a1).bind fun r2=>(bif (r2.2.2 != 0) then some ((Fo.mk 0 []),r2.2.2) else some (r2.1,0)))))
end Go.Ar
namespace Go.Ar
open Go.RowKit
def p_cU (K:Nat) (a0:Int):Nat→Int→(List Int)→Option (List Int)
 | 0,_,_=>none
 | n+1,v6_1,l1005_1=>(bif (decide (v6_1 < a0)) then (apP 8 l1005_1.length [v6_1].length (p_cU K a0 n (w64 (v6_1+1)) (l1005_1++[v6_1]))) else some l1005_1)
def p_dz (K:Nat) (a1:(List Ed)) (a0:Int):Nat→Bool→Int→(List Int)→Option (Bool × (List Int))
 | 0,_,_,_=>none
 | n+1,v7_8,v8_8,l1005_8=>(bif (decide (v8_8 < (a1.length:Int))) then (((ixP a1 v8_8 fun v3=>(ixP a1 v8_8 fun v5=>(bif (decide (v3.u < 0)) then some (v7_8,l1005_8) else (bif (decide (v5.v < 0)) then some (v7_8,l1005_8) else (bif (decide (v3.u≥a0)) then some (v7_8,l1005_8) else (bif (decide (v5.v≥a0)) then some (v7_8,l1005_8) else (bdP l1005_8.length v3.u fun i6=>gtP l1005_8 i6 fun v7=>(bdP l1005_8.length v5.v fun i8=>gtP l1005_8 i8 fun v9=>(bif (v7 == v9) then some (v7_8,l1005_8) else (bdP l1005_8.length v3.u fun i10=>gtP l1005_8 i10 fun v11=>(bdP l1005_8.length v5.v fun i12=>gtP l1005_8 i12 fun v13=>(bdP l1005_8.length v3.u fun i14=>gtP l1005_8 i14 fun v15=>(bdP l1005_8.length v5.v fun i16=>gtP (l1005_8.set i14 (if v13 < v11 then v13 else v11)) i16 fun v17=>some (true,((l1005_8.set i14 (if v13 < v11 then v13 else v11)).set i16 (if v13 < v11 then v13 else v11)))))))))))))))):Option (Bool × (List Int))).bind fun (v7_7,l1005_7)=>p_dz K a1 a0 n v7_7 (w64 (v8_8+1)) l1005_7) else some (v7_8,l1005_8))
def p_ct (K:Nat) (a1:(List Ed)) (a0:Int):Nat→Bool→(List Int)→Option (List Int)
 | 0,_,_=>none
 | n+1,v7_6,l1005_6=>(bif v7_6 then ((p_dz K a1 a0 K false 0 l1005_6:Option (Bool × (List Int))).bind fun (v7_9,l1005_9)=>p_ct K a1 a0 n v7_9 l1005_9) else some l1005_6)
def p_fI (K:Nat) (a0:Int) (a1:(List Ed)):Option (List Int) :=
 ((p_cU K a0 K 0 []:Option (List Int)).bind fun l1005_2=>((p_ct K a1 a0 K true l1005_2:Option (List Int)).bind fun l1005_10=>some l1005_10))
def p_gp (K:Nat)  : Nat→Int→Int→Option Int
 | 0,_,_=>none
 | n+1,v3_1,v4_1=>(bif (decide (v4_1 > 0)) then p_gp K  n (w64 (v3_1+1)) (w64 (Int.tdiv v4_1 2)) else some v3_1)
def p_eM (K:Nat) (a0:Int):Option Int :=
 (bif (decide (a0 < 1)) then some 0 else (bif (decide (a0 > 64)) then some 0 else ((p_gp K  K 0 (w64 (a0 - 1)):Option Int).bind fun v3_2=>some v3_2)))
def p_ba (K:Nat) (a0:Gr):Nat→Int→(List Ed)→Option (Sum (List Ed) Bool)
 | 0,_,_=>none
 | n+1,v4_1,l1003_1=>(bif (decide (v4_1 < (a0.ties.length:Int))) then (ixP a0.ties v4_1 fun v2=>(bif (decide (v2.u < 0)) then some (.inr false) else (bif (decide (v2.u≥v2.v)) then some (.inr false) else (bif (decide (v2.v≥a0.n)) then some (.inr false) else (bif (decide (v2.level < 0)) then some (.inr false) else ((p_eM K a0.n).bind fun r3=>(bif (decide (v2.level > r3)) then some (.inr false) else (bif (decide (v4_1 > 0)) then (ixP a0.ties (w64 (v4_1 - 1)) fun v5=>(bif (decide (v5.u > v2.u)) then some (.inr false) else (ixP a0.ties (w64 (v4_1 - 1)) fun v7=>(bif (v7.u == v2.u) then (ixP a0.ties (w64 (v4_1 - 1)) fun v9=>(bif (decide (v9.v≥v2.v)) then some (.inr false) else (bif v2.tree then (apP 16 l1003_1.length [(Ed.mk v2.u v2.v)].length (p_ba K a0 n (w64 (v4_1+1)) (l1003_1++[(Ed.mk v2.u v2.v)]))) else p_ba K a0 n (w64 (v4_1+1)) l1003_1))) else (bif v2.tree then (apP 16 l1003_1.length [(Ed.mk v2.u v2.v)].length (p_ba K a0 n (w64 (v4_1+1)) (l1003_1++[(Ed.mk v2.u v2.v)]))) else p_ba K a0 n (w64 (v4_1+1)) l1003_1))))) else (bif v2.tree then (apP 16 l1003_1.length [(Ed.mk v2.u v2.v)].length (p_ba K a0 n (w64 (v4_1+1)) (l1003_1++[(Ed.mk v2.u v2.v)]))) else p_ba K a0 n (w64 (v4_1+1)) l1003_1))))))))) else some (.inl l1003_1))
def p_dr (K:Nat) (a0:Gr):Nat→(List Int)→Int→Int→Option Int
 | 0,_,_,_=>none
 | n+1,v6_3,v7_3,v8_3=>(bif (decide (v8_3 < a0.n)) then (ixP v6_3 v8_3 fun v15=>(bif (v15 == v8_3) then p_dr K a0 n v6_3 (w64 (v7_3+1)) (w64 (v8_3+1)) else p_dr K a0 n v6_3 v7_3 (w64 (v8_3+1)))) else some v7_3)
def p_e7 (K:Nat) (a0:Gr):Option Bool :=
 (bif (decide (a0.n < 1)) then some false else (bif (decide (a0.n > 64)) then some false else (bif (decide ((a0.ties.length:Int) > 400)) then some false else ((p_ba K a0 K 0 []:Option (Sum (List Ed) Bool)).bind fun | .inl l1003_2=>((p_fI K a0.n l1003_2).bind fun r13=>((p_dr K a0 K r13 0 0:Option Int).bind fun v7_4=>some (v7_4 == (w64 (a0.n - (l1003_2.length:Int)))))) | .inr r=>some r))))
def p_cV (K:Nat) (a0:Gr) (a1:Int):Nat→Int→(List Ed)→Option (List Ed)
 | 0,_,_=>none
 | n+1,v6_1,l1005_1=>(bif (decide (v6_1 < (a0.ties.length:Int))) then (ixP a0.ties v6_1 fun v2=>(bif v2.tree then (ixP a0.ties v6_1 fun v4=>(bif (decide (v4.level≥a1)) then (ixP a0.ties v6_1 fun v6=>(ixP a0.ties v6_1 fun v8=>(apP 16 l1005_1.length [(Ed.mk v6.u v8.v)].length (p_cV K a0 a1 n (w64 (v6_1+1)) (l1005_1++[(Ed.mk v6.u v8.v)]))))) else p_cV K a0 a1 n (w64 (v6_1+1)) l1005_1)) else p_cV K a0 a1 n (w64 (v6_1+1)) l1005_1)) else some l1005_1)
def p_f3 (K:Nat) (a0:Gr) (a1:Int):Option (List Ed) :=
 ((p_cV K a0 a1 K 0 []:Option (List Ed)).bind fun l1005_2=>some l1005_2)
def p_fW (K:Nat) (a0:Gr) (a1:Int):Option (Fo × Int) :=
 ((p_e7 K a0).bind fun r1=>(bif (!r1) then some ((Fo.mk 0 []),1) else ((p_f3 K a0 a1).bind fun r2=>((p_gA K a0.n r2).bind fun r3=>some (r3.1,r3.2)))))
def p_fP (K:Nat) (a0:Gr) (a1:Int) (a2:Int):Option (List Int) :=
 ((p_fW K a0 a2).bind fun r1=>((p_gz K r1.1 a1).bind fun r2=>(bif (decide (r2 < 0)) then some [] else (ixP r1.1.rings r2 fun v4=>some v4))))
def p_c0 (K:Nat) (a0:Gr) (a1:Int):Option Int :=
 ((p_e7 K a0).bind fun r1=>(bif (!r1) then some 1 else (bif (decide (a1 < 0)) then some 10 else (bif (decide (a1≥a0.n)) then some 10 else some 0))))
def p_fJ (K:Nat) (a0:Ti) (a1:Int):Option Bool :=
 (bif (!a0.tree) then some (a0.level == a1) else some false)
def p_c9 (K:Nat) (a0:Gr) (a2:Int) (a1:Int):Nat→Int→Option (Sum Unit Bool)
 | 0,_=>none
 | n+1,v7_1=>(bif (decide (v7_1 < (a0.ties.length:Int))) then (ixP a0.ties v7_1 fun v2=>((p_fJ K v2 a2).bind fun r3=>(bif r3 then (ixP a0.ties v7_1 fun v5=>(bif (v5.u == a1) then some (.inr true) else (ixP a0.ties v7_1 fun v7=>(bif (v7.v == a1) then some (.inr true) else p_c9 K a0 a2 a1 n (w64 (v7_1+1)))))) else p_c9 K a0 a2 a1 n (w64 (v7_1+1))))) else some (.inl ()))
def p_fX (K:Nat) (a0:Gr) (a1:Int) (a2:Int):Option Bool :=
 ((p_c9 K a0 a2 a1 K 0:Option (Sum Unit Bool)).bind fun | .inl _=>some false | .inr r=>some r)
def p_cW (K:Nat) (a0:Gr) (a2:Int):Nat→(List Int)→Int→(List Int)→(List Int)→(List (List Int))→(List Bool)→Option ((List Int) × (List Int) × (List (List Int)) × (List Bool))
 | 0,_,_,_,_,_,_=>none
 | n+1,v12_1,v16_1,v3_1,v3_1_1,v3_1_2,l1015_1=>(bif (decide (v16_1 < (v12_1.length:Int))) then (ixP v12_1 v16_1 fun v6=>(bif (decide (v6 < a0.n)) then (ixP v12_1 v16_1 fun v8=>((p_fX K a0 v8 a2).bind fun r9=>(apP 1 l1015_1.length [r9].length (p_cW K a0 a2 n v12_1 (w64 (v16_1+1)) v3_1 v3_1_1 v3_1_2 (l1015_1++[r9]))))) else (apP 1 l1015_1.length [false].length (p_cW K a0 a2 n v12_1 (w64 (v16_1+1)) v3_1 v3_1_1 v3_1_2 (l1015_1++[false]))))) else some (v3_1,v3_1_1,v3_1_2,l1015_1))
def p_f4 (K:Nat) (a0:Gr) (a1:Int) (a2:Int) (a3:(List Int)):Option (Tw × (List (List Int)) × Int) :=
 ((p_c0 K a0 a1).bind fun r1=>(bif (r1 != 0) then some ((Tw.mk [] [] []),[],r1) else ((p_fP K a0 a1 a2).bind fun r2=>((p_fH K r2 a3).bind fun r3=>((p_dU K r2 r3).bind fun r4=>((p_cW K a0 a2 K r2 0 r4.1.tokens r4.1.heights r4.1.next []:Option ((List Int) × (List Int) × (List (List Int)) × (List Bool))).bind fun (v3_2,v3_2_1,v3_2_2,l1015_2)=>((p_f9 K (Tw.mk v3_2 v3_2_1 v3_2_2) l1015_2).bind fun r12=>some ((Tw.mk (Tw.mk v3_2 v3_2_1 v3_2_2).tokens (Tw.mk v3_2 v3_2_1 v3_2_2).heights (Tw.mk v3_2 v3_2_1 v3_2_2).next),r12.1,r12.2))))))))
def p_cu (K:Nat) (a1:(List (List Int))):Nat→Int→(List Int)→Option (Sum (List Int) (List Int))
 | 0,_,_=>none
 | n+1,v6_1,l1005_1=>(bif (decide (v6_1 < (a1.length:Int))) then (ixP a1 v6_1 fun v2=>(bif ((v2.length:Int) == 0) then some (.inr []) else (ixP a1 v6_1 fun v4=>(ixP v4 0 fun v6=>(apP 8 l1005_1.length [v6].length (p_cu K a1 n (w64 (v6_1+1)) (l1005_1++[v6]))))))) else some (.inl l1005_1))
def p_eo (K:Nat) (a0:Tw) (a1:(List (List Int))):Option (List Int) :=
 ((p_cu K a1 K 0 []:Option (Sum (List Int) (List Int))).bind fun | .inl l1005_2=>((p_ev K a0 l1005_2).bind fun r8=>(bif (r8.2 != 0) then some [] else ((p_cZ K r8.1 a1).bind fun r9=>(bif (!r9) then some [] else some l1005_2)))) | .inr r=>some r)
theorem w_gX {K:Nat}{a0:Tw}{a1:(List (List Int))}{y:(List Int)} (hy:p_eo K a0 a1=some y):Does PP GV 53 [] [(TwA a0),((SL 1 (SL 1 I)) a1)] [] [] ((SL 1 I) y):=by
 unfold p_eo at hy
 refine does_of at53 r (le_ok r)<|?_
 rintro ⟨_,base,w0,F⟩ rfl
 refine reg 2 r<|bx 1 r r r r<|go 1 r<|dn<|rg r<|bkH hy fun o1 hy k1 hk1 hc1=>meetD [1,2] [1] r r (fun (p:(List Int) × Nat)=>match p with | (l1005_2,g1005_1)=>([(5,.own 1005 g1005_1 1 0 (l1005_2).length false)],[(1005,some (g1005_1,.buf 1 (l1005_2.map I)))],k1 (.inl l1005_2)=some y)) ?_ ?_
 ·skip
  refine rg r<|at_block<|niloP (I) 5 1005 1 r<|loopD [1,2] [1] r r (fun (p:Nat × Int × (List Int) × Nat)=>match p with | (n2,v6_1,l1005_1,g1005_2)=>([(5,.own 1005 g1005_2 1 0 (l1005_1).length false),(6,(I v6_1))],[(1005,some (g1005_2,.buf 1 (l1005_1.map I)))],p_cu K a1 n2 v6_1 l1005_1=some o1)) (K,0,[],_) (lk r) (hk r) hy<|?_
  rintro ⟨n2,v6_1,l1005_1,g1005_2⟩ cl hy
  obtain _ | n2:=n2;· cases hy
  refine nf r r<|?_
  replace hy:_=some _:=hy
  rw [p_cu] at hy
  refine at_seq<|reg 4 r<|go 2 r<|lnf (f:=(SL 1 I)) slB30 r r r<|go 1 r<|dn<|cdH r hy (fun hy=>?_) fun hy=>?_
  ·refine at_skip<|at_seq<|at_block<|at_seq<|reg 6 r<|go 2 r<|ixH hy fun i1 v2 qi1 xv2 hy=>fixP (f:=(SL 1 I)) sl30 qi1 xv2 r r r r<|fld tk29 r r r r<|lnf (f:=I) slB29 r r r<|go 1 r<|dn<|cdH r hy (fun hy=>?_) fun hy=>?_
   ·refine rg r<|at_ret<|atnilP (I) 4 1 r<|?_
    obtain rfl:=sj hy
    subst hk1;obtain rfl:=sj hc1
    exact eR r r
   ·refine at_skip<|reg1 10 r<|go 3 r<|ixH hy fun i3 v4 qi3 xv4 hy=>fixP (f:=(SL 1 I)) sl30 qi3 xv4 r r r r<|fld tk29 r r r r<|ixH hy fun i5 v6 qi5 xv6 hy=>fixP (f:=I) sl29 qi5 xv6 r r r r<|fld tk3 r r r r<|bldsP I ([v6]:List Int) 2 se29 r r r r r r r<|apH hy fun k7a k7b hy=>apoP (f:=I) (l:=l1005_1) (zs:=[v6]) se29 k7a k7b r r r r r r<|go 1 r<|dn<|at_bn<|rg1 r<|againD (n2,(w64 (v6_1+1)),(l1005_1++[v6]),_) (lk r) (hk r) r r hy r
  ·exact at_exit<|at_te<|at_te<|at_inBlock<|metD (l1005_1,_) (lk r) (hk r) r r (sj2 hy hc1)
 ·rintro ⟨l1005_2,g1005_1⟩ cl hy
  subst hk1
  refine nf r r<|frzP (f:=I) (l:=l1005_2) 5 1005 r r pu_I<|reg 8 r<|ldw tk32 r r r r r r<|go 1 r<|bndH hy fun r8 qr8 hy=>clc (w_hg qr8) ca52 r r r<|go 5 r<|dn<|at_seq<|reg 8 r<|go 3 r<|casH 38 r hy (fun hy=>?_) fun hy=>?_
  ·refine go 5 r<|dn<|cdt r<|rg r<|at_ret<|atnilP (I) 4 1 r<|?_
   obtain rfl:=sj hy
   exact eR r r
  ·refine go 2 r<|bndH hy fun r9 qr9 hy=>clc (w_gv qr9) ca10 r r r<|go 2 r<|dn<|cdH r hy (fun hy=>?_) fun hy=>?_
   ·refine rg r<|at_ret<|atnilP (I) 4 1 r<|?_
    obtain rfl:=sj hy
    exact eR r r
   ·refine at_skip<|rg r<|at_ret<|?_
    obtain rfl:=sj hy
    exact eR r r
def p_cz (K:Nat)  : Nat→(List Int)→Int→Option (Sum (List Int) Bool)
 | 0,_,_=>none
 | n+1,v5_1,v6_1=>(bif (decide (v6_1 < (v5_1.length:Int))) then (ixP v5_1 v6_1 fun v3=>(bif (v3 != 0) then (ixP v5_1 v6_1 fun v5=>(bif (v5 != 1) then some (.inr false) else p_cz K  n v5_1 (w64 (v6_1+1)))) else p_cz K  n v5_1 (w64 (v6_1+1)))) else some (.inl v5_1))
def p_e8 (K:Nat) (a0:Tw) (a1:(List (List Int))):Option Bool :=
 ((p_eo K a0 a1).bind fun r1=>((p_cz K  K r1 0:Option (Sum (List Int) Bool)).bind fun | .inl v5_2=>some (decide ((v5_2.length:Int) > 0)) | .inr r=>some r))
theorem w_hh {K:Nat}{a0:Tw}{a1:(List (List Int))}{y:Bool} (hy:p_e8 K a0 a1=some y):Does PP GV 28 [] [(TwA a0),((SL 1 (SL 1 I)) a1)] [] [] (B y):=by
 unfold p_e8 at hy
 refine does_of at28 r (le_ok r)<|?_
 rintro ⟨_,base,w0,F⟩ rfl
 refine reg 2 r<|bx 1 r r r r<|go 1 r<|dn<|reg 4 r<|ldw tk32 r r r r r r<|go 1 r<|bndH hy fun r1 qr1 hy=>clc (w_gX qr1) ca53 r r r<|go 1 r<|dn<|bkH hy fun o1 hy k1 hk1 hc1=>meetD [] [] r r (fun (p:(List Int))=>match p with | v5_2=>([(5,((SL 1 I) v5_2))],[],k1 (.inl v5_2)=some y)) ?_ ?_
 ·skip
  refine rg r<|at_block<|loopD [] [] r r (fun (p:Nat × (List Int) × Int)=>match p with | (n2,v5_1,v6_1)=>([(5,((SL 1 I) v5_1)),(6,(I v6_1))],[],p_cz K  n2 v5_1 v6_1=some o1)) (K,r1,0) (lk r) .nil hy<|?_
  rintro ⟨n2,v5_1,v6_1⟩ cl hy
  obtain _ | n2:=n2;· cases hy
  refine nf r r<|?_
  replace hy:_=some _:=hy
  rw [p_cz] at hy
  refine at_seq<|reg 4 r<|go 2 r<|lnf (f:=I) slB29 r r r<|go 1 r<|dn<|cdH r hy (fun hy=>?_) fun hy=>?_
  ·refine at_skip<|at_seq<|at_block<|reg 12 r<|go 2 r<|ixH hy fun i2 v3 qi2 xv3 hy=>fixP (f:=I) sl29 qi2 xv3 r r r r<|fld tk3 r r r r<|go 2 r<|casH 21 r hy (fun hy=>?_) fun hy=>?_
   ·refine go 2 r<|ixH hy fun i4 v5 qi4 xv5 hy=>fixP (f:=I) sl29 qi4 xv5 r r r r<|fld tk3 r r r r<|go 2 r<|dn<|cdH r hy (fun hy=>?_) fun hy=>?_
    ·refine rg r<|at_ret<|?_
     obtain rfl:=sj hy
     subst hk1;obtain rfl:=sj hc1
     exact eR r r
    ·refine at_skip<|at_bn<|rg1 r<|againD (n2,v5_1,(w64 (v6_1+1))) (lk r) .nil r r hy r
   ·refine go 6 r<|dn<|cdf r<|at_skip<|at_bn<|rg1 r<|againD (n2,v5_1,(w64 (v6_1+1))) (lk r) .nil r r hy r
  ·exact at_exit<|at_te<|at_te<|at_inBlock<|metD v5_1 (lk r) .nil r r (sj2 hy hc1)
 ·rintro v5_2 cl hy
  subst hk1
  refine nf r r<|reg 4 r<|go 1 r<|lnf (f:=I) slB29 r r r<|go 2 r<|dn<|at_ret<|?_
  obtain rfl:=sj hy
  exact eR r r
end Go.Ar
namespace Go.Ar
open Go.RowKit
def p_bM (K:Nat) (a0:Tw) (a3:Int) (a1:(List (List Int))) (a2:Int):Nat→Int→(List Int)→Option (List Int)
 | 0,_,_=>none
 | n+1,v12_1,l1011_1=>(bif (decide (v12_1 < (a0.tokens.length:Int))) then (bif (decide ((l1011_1.length:Int) < a3)) then (nzP (a0.tokens.length:Int) ((ixP a1 (Int.tmod (w64 (a2+v12_1)) (a0.tokens.length:Int)) fun v4=>(ixP v4 0 fun v6=>(bif (v6 == 1) then (apP 8 l1011_1.length [(Int.tmod (w64 (a2+v12_1)) (a0.tokens.length:Int))].length (p_bM K a0 a3 a1 a2 n (w64 (v12_1+1)) (l1011_1++[(Int.tmod (w64 (a2+v12_1)) (a0.tokens.length:Int))]))) else p_bM K a0 a3 a1 a2 n (w64 (v12_1+1)) l1011_1))))) else some l1011_1) else some l1011_1)
def p_e9 (K:Nat) (a0:Tw) (a1:(List (List Int))) (a2:Int) (a3:Int):Option ((List Int) × Int) :=
 ((p_e8 K a0 a1).bind fun r1=>(bif (!r1) then some ([],1) else (bif (decide (a2 < 0)) then some ([],6) else (bif (decide (a2≥(a0.tokens.length:Int))) then some ([],6) else ((p_bM K a0 a3 a1 a2 K 0 []:Option (List Int)).bind fun l1011_2=>some (l1011_2,0))))))
theorem w_hi {K:Nat}{a0:Tw}{a1:(List (List Int))}{a2:Int}{a3:Int}{y:((List Int) × Int)} (hy:p_e9 K a0 a1 a2 a3=some y):Does PP GV 11 [] [(TwA a0),((SL 1 (SL 1 I)) a1),(I a2),(I a3)] [] [] (.tup [((SL 1 I) y.1),(I y.2)]):=by
 unfold p_e9 at hy
 refine does_of at11 r (le_ok r)<|?_
 rintro ⟨_,base,w0,F⟩ rfl
 refine reg 3 r<|bx 1 r r r r<|go 2 r<|dn<|at_seq<|reg 4 r<|ldw tk32 r r r r r r<|go 1 r<|bndH hy fun r1 qr1 hy=>clc (w_hh qr1) ca28 r r r<|go 1 r<|dn<|cdH r hy (fun hy=>?_) fun hy=>?_
 ·refine rg r<|at_ret<|atnilP (I) 8 1 r<|?_
  obtain rfl:=sj hy
  exact mR r r (.t r (.t r .nil))
 ·refine at_skip<|reg 4 r<|fa fo32_0 r r r<|ld tk29 r r r r r r<|lnf (f:=I) slB29 r r r<|go 1 r<|dn<|at_seq<|reg 7 r<|go 3 r<|casH 23 r hy (fun hy=>?_) fun hy=>?_
  ·refine go 4 r<|dn<|cdt r<|rg r<|at_ret<|atnilP (I) 8 1 r<|?_
   obtain rfl:=sj hy
   exact mR r r (.t r (.t r .nil))
  ·refine go 4 r<|dn<|cdH r hy (fun hy=>?_) fun hy=>?_
   ·refine rg r<|at_ret<|atnilP (I) 8 1 r<|?_
    obtain rfl:=sj hy
    exact mR r r (.t r (.t r .nil))
   ·refine at_skip<|rg r<|bkH hy fun o1 hy k1 hk1 hc1=>meetD [] [] r r (fun (p:(List Int) × Nat)=>match p with | (l1011_2,g1011_1)=>([(11,.own 1011 g1011_1 1 0 (l1011_2).length false)],[(1011,some (g1011_1,.buf 1 (l1011_2.map I)))],k1 l1011_2=some y)) ?_ ?_
    ·skip
     refine rg r<|at_block<|niloP (I) 11 1011 1 r<|loopD [1,2,3,10] [] r r (fun (p:Nat × Int × (List Int) × Nat)=>match p with | (n2,v12_1,l1011_1,g1011_2)=>([(11,.own 1011 g1011_2 1 0 (l1011_1).length false),(12,(I v12_1))],[(1011,some (g1011_2,.buf 1 (l1011_1.map I)))],p_bM K a0 a3 a1 a2 n2 v12_1 l1011_1=some o1)) (K,0,[],_) (lk r) (hk r) hy<|?_
     rintro ⟨n2,v12_1,l1011_1,g1011_2⟩ cl hy
     obtain _ | n2:=n2;· cases hy
     refine nf r r<|?_
     replace hy:_=some _:=hy
     rw [p_bM] at hy
     refine at_seq<|reg 9 r<|go 4 r<|casH 31 r hy (fun hy=>?_) fun hy=>?_
     ·refine go 1 r<|lno slB29 r r r<|go 3 r<|dn<|cdH r hy (fun hy=>?_) fun hy=>?_
      ·refine at_skip<|at_seq<|at_block<|reg 6 r<|go 4 r<|?_
       obtain ⟨k2,hy⟩:=nzI hy
       refine rm r r r r k2<|go 1 r<|dn<|reg 7 r<|go 2 r<|ixH hy fun i3 v4 qi3 xv4 hy=>fixP (f:=(SL 1 I)) sl30 qi3 xv4 r r r r<|fld tk29 r r r r<|ixH hy fun i5 v6 qi5 xv6 hy=>fixP (f:=I) sl29 qi5 xv6 r r r r<|fld tk3 r r r r<|go 1 r<|dn<|cdH r hy (fun hy=>?_) fun hy=>?_
       ·refine reg1 5 r<|go 2 r<|bldsP I ([(Int.tmod (w64 (a2+v12_1)) (a0.tokens.length:Int))]:List Int) 2 se29 r r r r r r r<|apH hy fun k7a k7b hy=>apoP (f:=I) (l:=l1011_1) (zs:=[(Int.tmod (w64 (a2+v12_1)) (a0.tokens.length:Int))]) se29 k7a k7b r r r r r r<|go 1 r<|dn<|at_bn<|rg1 r<|againD (n2,(w64 (v12_1+1)),(l1011_1++[(Int.tmod (w64 (a2+v12_1)) (a0.tokens.length:Int))]),_) (lk r) (hk r) r r hy r
       ·refine at_skip<|at_bn<|rg1 r<|againD (n2,(w64 (v12_1+1)),l1011_1,_) (lk r) (hk r) r r hy r
      ·exact at_exit<|at_te<|at_te<|at_inBlock<|metD (l1011_1,_) (lk r) (hk r) r r (sj2 hy hc1)
     ·exact go 5 r<|dn<|cdf r<|at_exit<|at_te<|at_te<|at_inBlock<|metD (l1011_1,_) (lk r) (hk r) r r (sj2 hy hc1)
    ·rintro ⟨l1011_2,g1011_1⟩ cl hy
     subst hk1
     refine nf r r<|rg r<|at_ret<|frzP (f:=I) (l:=l1011_2) 8 1011 r r pu_I<|?_
     obtain rfl:=sj hy
     exact mR r r (.t r (.t r .nil))
def p_o (K:Nat) (v11_4:(List Int)) (v3_7:(List Int)):Nat→Bool→Int→Int→Int→Int→Bool→Option (Bool × Int × Int × Int × Bool)
 | 0,_,_,_,_,_,_=>none
 | n+1,v18_1,v19_1,v4_1,v4_1_1,v4_1_2,v4_1_3=>(bif (decide (v19_1 < (v11_4.length:Int))) then (bif v18_1 then p_o K v11_4 v3_7 n true (w64 (v19_1+1)) v4_1 v4_1_1 v4_1_2 v4_1_3 else (ixP v11_4 v19_1 fun v17=>(ixP v3_7 v17 fun v19=>(bif (v19 == v4_1) then p_o K v11_4 v3_7 n true (w64 (v19_1+1)) v4_1 v4_1_1 v4_1_2 v4_1_3 else (ixP v11_4 v19_1 fun v21=>(ixP v3_7 v21 fun v23=>p_o K v11_4 v3_7 n (v23 == v4_1_1) (w64 (v19_1+1)) v4_1 v4_1_1 v4_1_2 v4_1_3)))))) else some (v18_1,v4_1,v4_1_1,v4_1_2,v4_1_3))
def p_R (K:Nat) (a0:Gr) (v3_7:(List Int)) (a1:(List Int)):Nat→(List Int)→(List Ed)→Int→(List Ed)→Option ((List Ed) × (List Ed))
 | 0,_,_,_,_=>none
 | n+1,v11_4,v13_4,v16_4,l1015_4=>(bif (decide (v16_4 < (a0.ties.length:Int))) then (((ixP a0.ties v16_4 fun v15=>((p_o K v11_4 v3_7 K false 0 v15.u v15.v v15.level v15.tree:Option (Bool × Int × Int × Int × Bool)).bind fun (v18_2,v4_2,v4_2_1,v4_2_2,v4_2_3)=>(bif v18_2 then (bif (!v4_2_3) then (bdP 2 1 fun i24=>gtP a1 i24 fun v25=>(bif (v4_2_2 == v25) then (apP 16 l1015_4.length [(Ed.mk v4_2 v4_2_1)].length (some (l1015_4++[(Ed.mk v4_2 v4_2_1)]))) else some l1015_4)) else some l1015_4) else some l1015_4))):Option (List Ed)).bind fun l1015_3=>p_R K a0 v3_7 a1 n v11_4 v13_4 (w64 (v16_4+1)) l1015_3) else some (v13_4,l1015_4))
def p_bh (K:Nat) (a1:(List Int)) (a0:Gr):Nat→(List (List Int))→Int→(List Int)→(List Int)→(List (List Int))→Option (Sum Unit Bool)
 | 0,_,_,_,_,_=>none
 | n+1,v8_7,v10_7,v3_7,v3_7_1,v3_7_2=>(bif (decide (v10_7 < 13)) then ((((p_e9 K (Tw.mk v3_7 v3_7_1 v3_7_2) v8_7 0 v10_7).bind fun r8=>(bdP 2 0 fun i9=>gtP a1 i9 fun v10=>(bdP 2 1 fun i11=>gtP a1 i11 fun v12=>((p_dv K a0 v10 v12 v10_7).bind fun r13=>(bif (r8.2 != 0) then some (.inr (.inr false)) else (bif (r13.2 != 0) then some (.inr (.inr false)) else ((p_R K a0 v3_7 a1 K r8.1 r13.1 0 []:Option ((List Ed) × (List Ed))).bind fun (v13_5,l1015_5)=>((p_ef K v13_5 l1015_5).bind fun r27=>(bif (!r27) then some (.inr (.inr false)) else some (.inl ())))))))))):Option (Sum Unit (Sum Unit Bool))).bind fun | .inl _=>p_bh K a1 a0 n v8_7 (w64 (v10_7+1)) v3_7 v3_7_1 v3_7_2 | .inr r=>some r) else some (.inl ()))
def p_dC (K:Nat) (a0:Gr) (a1:(List Int)) (a2:(List Int)):Option Bool :=
 ((p_fd K).bind fun r1=>(bif (!r1) then some false else ((p_em K a0).bind fun r2=>(bif r2 then some true else (bdP 2 0 fun i3=>gtP a1 i3 fun v4=>(bdP 2 1 fun i5=>gtP a1 i5 fun v6=>((p_dw K a0 v4 v6 a2).bind fun r7=>(bif (r7.2.2 != 0) then (bif ((r7.1.tokens.length:Int) == 0) then some ((r7.2.1.length:Int) == 0) else some false) else ((p_bh K a1 a0 K r7.2.1 0 r7.1.tokens r7.1.heights r7.1.next:Option (Sum Unit Bool)).bind fun | .inl _=>some true | .inr r=>some r)))))))))
theorem w_gj {K:Nat}{a0:Gr}{a1:(List Int)}{a2:(List Int)}{y:Bool} (hy:p_dC K a0 a1 a2=some y):Does PP GV 4 [] [(GrA a0),((AR I) a1),((SL 1 (J .u32)) a2)] [] [] (B y):=by
 unfold p_dC at hy
 refine does_of at4 r (le_ok r)<|?_
 rintro ⟨_,base,w0,F⟩ rfl
 refine reg 3 r<|bx 1 r r r r<|bx 2 r r r r<|go 1 r<|dn<|at_seq<|reg 2 r<|bndH hy fun r1 qr1 hy=>clc (w_gV qr1) ca5 r r r<|go 1 r<|dn<|cdH r hy (fun hy=>?_) fun hy=>?_
 ·refine rg r<|at_ret<|?_
  obtain rfl:=sj hy
  exact eR r r
 ·refine at_skip<|at_seq<|reg 2 r<|ldw tk24 r r r r r r<|bndH hy fun r2 qr2 hy=>clc (w_gW qr2) ca6 r r r<|dn<|cdH r hy (fun hy=>?_) fun hy=>?_
  ·refine rg r<|at_ret<|?_
   obtain rfl:=sj hy
   exact eR r r
  ·refine at_skip<|reg 15 r<|ldw tk24 r r r r r r<|bdH hy fun i3 qi3 bi3 hy=>gtH hy fun v4 xv4 hy=>ixB ar25 qi3 bi3 r r r r<|ldB (f:=I) (l:=a1) tk3 xv4 r r r r<|bdH hy fun i5 qi5 bi5 hy=>gtH hy fun v6 xv6 hy=>ixB ar25 qi5 bi5 r r r r<|ldB (f:=I) (l:=a1) tk3 xv6 r r r r<|go 1 r<|bndH hy fun r7 qr7 hy=>clc (w_gm qr7) ca7 r r r<|go 4 r<|rg_alloc (s:=3) (gd_of r) zc32 (elems_one (by rfl)) (lt_ok r)<|str tk32 r r r r r r r<|go 2 r<|dn<|at_seq<|rg r<|cdH r hy (fun hy=>?_) fun hy=>?_
   ·refine reg 10 r<|fa fo32_0 r r r<|ld tk29 r r r r r r<|lnf (f:=I) slB29 r r r<|go 2 r<|casH 41 r hy (fun hy=>?_) fun hy=>?_
    ·refine go 1 r<|lnf (f:=(SL 1 I)) slB30 r r r<|go 3 r<|dn<|at_ret<|?_
     obtain rfl:=sj hy
     exact eR r r
    ·refine go 5 r<|dn<|at_ret<|?_
     obtain rfl:=sj hy
     exact eR r r
   ·refine at_skip<|bkH hy fun o1 hy k1 hk1 hc1=>meetD [] [] r r (fun (p:Unit)=>match p with | _=>([],[],k1 (.inl ())=some y)) ?_ ?_
    ·skip
     refine rg r<|at_block<|loopD [3,4] [1,2] r r (fun (p:Nat × (List (List Int)) × Int × (List Int) × (List Int) × (List (List Int)) × Nat)=>match p with | (n2,v8_7,v10_7,v3_7,v3_7_1,v3_7_2,g3_2)=>([(7,.ptr 3 g3_2 0 0),(8,((SL 1 (SL 1 I)) v8_7)),(10,(I v10_7))],[(3,some (g3_2,.buf 3 [.agg [((SL 1 I) v3_7),((SL 1 I) v3_7_1),((SL 1 (SL 1 I)) v3_7_2)]]))],p_bh K a1 a0 n2 v8_7 v10_7 v3_7 v3_7_1 v3_7_2=some o1)) (K,r7.2.1,0,r7.1.tokens,r7.1.heights,r7.1.next,_) (lk r) (hk r) hy<|?_
     rintro ⟨n2,v8_7,v10_7,v3_7,v3_7_1,v3_7_2,g3_2⟩ cl hy
     obtain _ | n2:=n2;· cases hy
     refine nf r r<|?_
     replace hy:_=some _:=hy
     rw [p_bh] at hy
     refine at_seq<|rg r<|cdH r hy (fun hy=>?_) fun hy=>?_
     ·refine at_skip<|bkH hy fun o3 hy k3 hk3 hc3=>meetD [3,4,7,8,10] [1,2,3] r r (fun (p:Unit)=>match p with | _=>([],[],k3 (.inl ())=some o1)) ?_ ?_
      ·skip
       refine at_block<|reg 9 r<|ldw tk32 r r r r r r<|go 2 r<|bndH hy fun r8 qr8 hy=>clc (w_hi qr8) ca11 r r r<|go 5 r<|dn<|reg 12 r<|ldw tk24 r r r r r r<|bdH hy fun i9 qi9 bi9 hy=>gtH hy fun v10 xv10 hy=>ixB ar25 qi9 bi9 r r r r<|ldB (f:=I) (l:=a1) tk3 xv10 r r r r<|bdH hy fun i11 qi11 bi11 hy=>gtH hy fun v12 xv12 hy=>ixB ar25 qi11 bi11 r r r r<|ldB (f:=I) (l:=a1) tk3 xv12 r r r r<|go 1 r<|bndH hy fun r13 qr13 hy=>clc (w_gl qr13) ca12 r r r<|go 5 r<|dn<|at_seq<|reg 6 r<|go 3 r<|casH 69 r hy (fun hy=>?_) fun hy=>?_
       ·refine go 3 r<|dn<|cdt r<|rg r<|at_ret<|?_
        obtain rfl:=sj hy
        subst hk3;obtain rfl:=sj hc3
        subst hk1;obtain rfl:=sj hc1
        exact eR r r
       ·refine go 3 r<|dn<|cdH r hy (fun hy=>?_) fun hy=>?_
        ·refine rg r<|at_ret<|?_
         obtain rfl:=sj hy
         subst hk3;obtain rfl:=sj hc3
         subst hk1;obtain rfl:=sj hc1
         exact eR r r
        ·refine at_skip<|rg r<|bkH hy fun o4 hy k4 hk4 hc4=>meetD [3,4,7,8,10] [1,2,3] r r (fun (p:(List Ed) × (List Ed) × Nat)=>match p with | (v13_5,l1015_5,g1015_4)=>([(13,((SL 2 EdA) v13_5)),(15,.own 1015 g1015_4 2 0 (l1015_5).length false)],[(1015,some (g1015_4,.buf 2 (l1015_5.map EdA)))],k4 (v13_5,l1015_5)=some o3)) ?_ ?_
         ·skip
          refine rg r<|at_block<|niloP (EdA) 15 1015 2 r<|loopD [3,4,7,8,10] [1,2,3] r r (fun (p:Nat × (List Int) × (List Ed) × Int × (List Ed) × Nat)=>match p with | (n5,v11_4,v13_4,v16_4,l1015_4,g1015_5)=>([(11,((SL 1 I) v11_4)),(13,((SL 2 EdA) v13_4)),(15,.own 1015 g1015_5 2 0 (l1015_4).length false),(16,(I v16_4))],[(1015,some (g1015_5,.buf 2 (l1015_4.map EdA)))],p_R K a0 v3_7 a1 n5 v11_4 v13_4 v16_4 l1015_4=some o4)) (K,r8.1,r13.1,0,[],_) (lk r) (hk r) hy<|?_
          rintro ⟨n5,v11_4,v13_4,v16_4,l1015_4,g1015_5⟩ cl hy
          obtain _ | n5:=n5;· cases hy
          refine nf r r<|?_
          replace hy:_=some _:=hy
          rw [p_R] at hy
          refine at_seq<|reg 5 r<|go 1 r<|fa fo24_1 r r r<|ld tk22 r r r r r r<|lnf (f:=TiA) slB22 r r r<|go 1 r<|dn<|cdH r hy (fun hy=>?_) fun hy=>?_
          ·refine at_skip<|bkH hy fun o6 hy k6 hk6 hc6=>meetD [3,4,7,8,10,11,13,16] [1,2,3] r r (fun (p:(List Ed) × Nat)=>match p with | (l1015_3,g1015_6)=>([(15,.own 1015 g1015_6 2 0 (l1015_3).length false)],[(1015,some (g1015_6,.buf 2 (l1015_3.map EdA)))],k6 l1015_3=some o4)) ?_ ?_
           ·skip
            refine at_block<|reg 7 r<|fa fo24_1 r r r<|ld tk22 r r r r r r<|go 1 r<|ixH hy fun i14 v15 qi14 xv15 hy=>fixP (f:=TiA) sl22 qi14 xv15 r r r r<|fldw tk45 r r r r<|rg_alloc (s:=4) (gd_of r) zc45 (elems_one (by rfl)) (lt_ok r)<|str tk45 r r r r r r r<|dn<|rg r<|bkH hy fun o7 hy k7 hk7 hc7=>meetD [3,4,7,8,10,11,13,15,16] [1,2,3,1015] r r (fun (p:Bool × Int × Int × Int × Bool × Nat)=>match p with | (v18_2,v4_2,v4_2_1,v4_2_2,v4_2_3,g4_7)=>([(17,.ptr 4 g4_7 0 0),(18,(B v18_2))],[(4,some (g4_7,.buf 4 [.agg [(I v4_2),(I v4_2_1),(I v4_2_2),(B v4_2_3)]]))],k7 (v18_2,v4_2,v4_2_1,v4_2_2,v4_2_3)=some o6)) ?_ ?_
            ·skip
             refine rg r<|at_block<|loopD [3,4,7,8,10,11,13,15,16] [1,2,3,1015] r r (fun (p:Nat × Bool × Int × Int × Int × Int × Bool × Nat)=>match p with | (n8,v18_1,v19_1,v4_1,v4_1_1,v4_1_2,v4_1_3,g4_8)=>([(17,.ptr 4 g4_8 0 0),(18,(B v18_1)),(19,(I v19_1))],[(4,some (g4_8,.buf 4 [.agg [(I v4_1),(I v4_1_1),(I v4_1_2),(B v4_1_3)]]))],p_o K v11_4 v3_7 n8 v18_1 v19_1 v4_1 v4_1_1 v4_1_2 v4_1_3=some o7)) (K,false,0,v15.u,v15.v,v15.level,v15.tree,_) (lk r) (hk r) hy<|?_
             rintro ⟨n8,v18_1,v19_1,v4_1,v4_1_1,v4_1_2,v4_1_3,g4_8⟩ cl hy
             obtain _ | n8:=n8;· cases hy
             refine nf r r<|?_
             replace hy:_=some _:=hy
             rw [p_o] at hy
             refine at_seq<|reg 4 r<|go 2 r<|lnf (f:=I) slB29 r r r<|go 1 r<|dn<|cdH r hy (fun hy=>?_) fun hy=>?_
             ·refine at_skip<|at_seq<|at_block<|regd1 mixed 28 r<|go 2 r<|casH 92 r hy (fun hy=>?_) fun hy=>?_
              ·refine go 26 r<|dn ⟨by kernel_rfl,?_⟩
               refine at_bn<|rg1 r<|againD (n8,true,(w64 (v19_1+1)),v4_1,v4_1_1,v4_1_2,v4_1_3,_) (lk r) (hk r) r r hy r
              ·refine fa fo32_0 r r r<|ld tk29 r r r r r r<|go 2 r<|ixH hy fun i16 v17 qi16 xv17 hy=>fixP (f:=I) sl29 qi16 xv17 r r r r<|fld tk3 r r r r<|ixH hy fun i18 v19 qi18 xv19 hy=>fixP (f:=I) sl29 qi18 xv19 r r r r<|fld tk3 r r r r<|fa fo45_0 r r r<|ld tk3 r r r r r r<|go 3 r<|casH 105 r hy (fun hy=>?_) fun hy=>?_
               ·refine go 13 r<|dn ⟨by kernel_rfl,?_⟩
                refine at_bn<|rg1 r<|againD (n8,true,(w64 (v19_1+1)),v4_1,v4_1_1,v4_1_2,v4_1_3,_) (lk r) (hk r) r r hy r
               ·refine fa fo32_0 r r r<|ld tk29 r r r r r r<|go 2 r<|ixH hy fun i20 v21 qi20 xv21 hy=>fixP (f:=I) sl29 qi20 xv21 r r r r<|fld tk3 r r r r<|ixH hy fun i22 v23 qi22 xv23 hy=>fixP (f:=I) sl29 qi22 xv23 r r r r<|fld tk3 r r r r<|fa fo45_1 r r r<|ld tk3 r r r r r r<|go 3 r<|dn ⟨by kernel_rfl,?_⟩
                refine at_bn<|rg1 r<|againD (n8,(v23 == v4_1_1),(w64 (v19_1+1)),v4_1,v4_1_1,v4_1_2,v4_1_3,_) (lk r) (hk r) r r hy r
             ·exact at_exit<|at_te<|at_te<|at_inBlock<|metD (v18_1,v4_1,v4_1_1,v4_1_2,v4_1_3,_) (lk r) (hk r) r r (sj2 hy hc7)
            ·rintro ⟨v18_2,v4_2,v4_2_1,v4_2_2,v4_2_3,g4_7⟩ cl hy
             subst hk7
             refine nf r r<|reg 13 r<|go 2 r<|casH 119 r hy (fun hy=>?_) fun hy=>?_
             ·refine fa fo45_3 r r r<|ld tk4 r r r r r r<|go 3 r<|casH 124 r hy (fun hy=>?_) fun hy=>?_
              ·refine fa fo45_2 r r r<|ld tk3 r r r r r r<|bdH hy fun i24 qi24 bi24 hy=>gtH hy fun v25 xv25 hy=>ixB ar25 qi24 bi24 r r r r<|ldB (f:=I) (l:=a1) tk3 xv25 r r r r<|go 2 r<|dn<|cdH r hy (fun hy=>?_) fun hy=>?_
               ·exact reg1 9 r<|go 1 r<|fa fo45_0 r r r<|ld tk3 r r r r r r<|fa fo45_1 r r r<|ld tk3 r r r r r r<|bld bd47 r r r r<|bldsP EdA ([(Ed.mk v4_2 v4_2_1)]:List Ed) 5 se41 r r r r r r r<|apH hy fun k26a k26b hy=>apoP (f:=EdA) (l:=l1015_4) (zs:=[(Ed.mk v4_2 v4_2_1)]) se41 k26a k26b r r r r r r<|go 1 r<|dn<|at_bn<|metD ((l1015_4++[(Ed.mk v4_2 v4_2_1)]),_) (lk r) (hk r) r r (sj2 hy hc6)
               ·exact at_skip<|at_bn<|metD (l1015_4,_) (lk r) (hk r) r r (sj2 hy hc6)
              ·exact go 6 r<|dn<|cdf r<|at_skip<|at_bn<|metD (l1015_4,_) (lk r) (hk r) r r (sj2 hy hc6)
             ·exact go 11 r<|dn<|cdf r<|at_skip<|at_bn<|metD (l1015_4,_) (lk r) (hk r) r r (sj2 hy hc6)
           ·rintro ⟨l1015_3,g1015_6⟩ cl hy
            subst hk6
            refine nf r r<|rg1 r<|againD (n5,v11_4,v13_4,(w64 (v16_4+1)),l1015_3,_) (lk r) (hk r) r r hy r
          ·exact at_exit<|at_te<|at_te<|at_inBlock<|metD (v13_4,l1015_4,_) (lk r) (hk r) r r (sj2 hy hc4)
         ·rintro ⟨v13_5,l1015_5,g1015_4⟩ cl hy
          subst hk4
          refine nf r r<|frzP (f:=EdA) (l:=l1015_5) 15 1015 r r pu_Ed<|reg 4 r<|go 2 r<|bndH hy fun r27 qr27 hy=>clc (w_f7 qr27) ca13 r r r<|go 1 r<|dn<|cdH r hy (fun hy=>?_) fun hy=>?_
          ·refine rg r<|at_ret<|?_
           obtain rfl:=sj hy
           subst hk3;obtain rfl:=sj hc3
           subst hk1;obtain rfl:=sj hc1
           exact eR r r
          ·exact at_skip<|at_bn<|metD () .nil .nil r r (sj2 hy hc3)
      ·rintro ⟨⟩ cl hy
       subst hk3
       refine nf r r<|rg1 r<|againD (n2,v8_7,(w64 (v10_7+1)),v3_7,v3_7_1,v3_7_2,_) (lk r) (hk r) r r hy r
     ·exact at_exit<|at_te<|at_te<|at_inBlock<|metD () .nil .nil r r (sj2 hy hc1)
    ·rintro ⟨⟩ cl hy
     subst hk1
     refine nf r r<|rg r<|at_ret<|?_
     obtain rfl:=sj hy
     exact eR r r
end Go.Ar
namespace Go.Ar
open Go.RowKit
def FA (W:World):Fr:=⟨fun b=>b < W.heap.size,fun _=>False,fun _=>none⟩
def EA:Nat→Nat→Option Loc:=fun _ _=>none
abbrev cxA (W:World):Cx:=cx W.heap.size (FA W) EA (· < 1) W
theorem held_all {gl:List (Nat × Array Value × TypeId)}{W:World} (hgl:∀ p∈gl,∃ t,W.heap[p.1]? = some (.cells p.2.1 t (0,0))):Held gl W.heap.size W (FA W) EA [] W:=by
 have ho:∀ s g,(mk [] (objs 0 [])).obj s g=none:=by intro s g;simp [St.obj,mk,objs,lookH]
 refine ⟨rfl,rfl,fun p hp=>?_,Below.refl _ _,fun _ _ _=>rfl,fun b hb=>⟨hb,fun h=>h⟩,Nat.le_refl _,fun _ _ _=>rfl,fun s g o h=>?_,fun s g L b h=>?_,fun s g s' g' L L' b h=>?_,Nat.zero_lt_one,fun s L h=>?_,fun t=>VT.any _ _⟩
 ·obtain ⟨t,ht⟩:=hgl p hp
  exact ⟨(Array.getElem?_eq_some_iff.1 ht).1,t,ht⟩
 ·rw [ho] at h;cases h
 ·cases h
 ·cases h
 ·cases h
theorem law_call {P : Program} {gl : List (Nat × Array Value × TypeId)} {f : FuncId} {xs : List AV} {W : World} {vs : List Value} (hd : Does P gl f [] xs [] [] (.v (.bool true)))
    (hgl:∀ p∈gl,∃ t,W.heap[p.1]? = some (.cells p.2.1 t (0,0))) (hlen:xs.length=vs.length) (hx:∀ (i:Nat) x,xs[i]? = some x→∀ v,vs[i]? = some v→VT (cxA W) x v) :
    Calls P f vs.toArray W fun e W'=>e = .returned (.bool true)∧Below W.heap.size W W':=by
 refine (hd (FA W) EA W vs (held_all hgl) hlen hx).mono fun e W' h=>?_
 cases e with
 | returned v =>
  obtain ⟨E',hs,_,hv⟩:=h
  obtain ⟨_,hv⟩:=hv
  cases hv
  exact ⟨rfl,hs.below.os,hs.below.tape,hs.below.output,hs.below.size,fun k hk=>hs.keep k hk (fun h=>h)⟩
 | _=>exact h.elim
section
variable {H : Type} {enc : TypeId × Value → H} {P : Program}
theorem trodAll_carry {W W':World}{base:Nat}{sp:Nat→Bool}{held:Bool}:∀ {ts:List TypeId}{vs:List Value}{ds:List (DataW H)}{ps:List MemPlace},DataW.TrodAll enc P W base sp held ts vs ds ps→(∀ p∈ps,W.sameAt W' p)→DataW.TrodAll enc P W' base sp held ts vs ds ps
 | [],[],[],_,h,_=>h
 | _::_,_::_,_::_,_,⟨p,q,⟨n,h1⟩,h2,e⟩,hs=>⟨p,q,⟨n,DataW.trod_carry n _ _ _ h1 fun x hx=>hs x (by rw [e];exact List.mem_append_left _ hx)⟩,trodAll_carry h2 (fun x hx=>hs x (by rw [e];exact List.mem_append_right _ hx)),e⟩
theorem law_post {f : Func} {s : ChangeSpec} {apart fresh handsOn again : Bool} {W W' : World} {args : Array Value} {ds gs : List (DataW H)} {before : List MemPlace} {rt : TypeId}
    (hl:laidOutB P=true) (hm:mapsRowed P=true) (hsl:((List.range P.types.size).all fun t=>match P.underlying t with | some (.slice e)=>decide (0 < P.cellsOf e) | _=>true)=true) (hts:(f.params.toList.all fun t=>decide (t < P.types.size))=true)
    (hrt:f.resultTypes = #[rt]) (hb:P.underlying rt=some .bool) (hv:s.vars=[]) (hs:s.fn H (ds++gs) = { results:=[.lit (.bool true)],args:=ds })
    (hW:DataW.Whole enc P f.params.toList s.vars apart W args.toList ds gs before) (hB:Below W.heap.size W W') :
    s.post enc P f apart fresh handsOn again W args (.bool true) W':=by
 have hW':=hW
 obtain ⟨p,q,hA,hV,rfl,hfz,hnd⟩:=hW
 rw [hv] at hV
 obtain ⟨rfl,rfl⟩:gs=[]∧q=[]:=by
  cases gs with
  | nil=>exact ⟨rfl,hV⟩
  | cons g r=>exact absurd hV (by intro h;cases h)
 simp only [List.append_nil] at hW' hs hfz hnd
 have hlt:∀ x∈p,x.block < W.heap.size:=fun x hx=>hW'.lt x hx
 have K:=kids_rows hl hm
 have hz:=slices_full_of P hsl
 have hT:∀ t∈f.params.toList,t < P.types.size:=fun t ht=>by simpa using List.all_eq_true.1 hts t ht
 have hA2:=trodAll_carry hA fun x hx=>hB.same (hlt x hx)
 have hargs:∀ sp:Nat→Bool,(∀ x∈p,sp x.block=true)→DataW.TrodAll enc P W' 0 sp true f.params.toList args.toList ds p:=fun sp hsp=>DataW.TrodAll.respare K hz hT hA2 hsp
 have hres:∀ (b:Nat) (sp:Nat→Bool) (hd:Bool),DataW.TrodAll enc P W' b sp hd f.resultTypes.toList ((Value.bool true).resultList f.resultTypes.size) [.lit (.bool true)] []:=by
  intro b sp hd
  rw [hrt]
  exact trodAll_cons_mk (p:=[]) (p':=[]) (Go.RowKit.shut_bool hb _) rfl
 have hold:∀ x∈p,(fun b=>decide (b < W.heap.size)) x.block=true:=fun x hx=>by simpa using hlt x hx
 refine ⟨ds,[],p,[],p,[],hW',?_,?_,?_,World.keptBut_mono (fun x hx=>⟨hx,.inr (.inl hx)⟩) (hB.frame _),fun _=>?_⟩
 ·rw [List.append_nil,hs];exact hres _ _ _
 ·rw [List.append_nil,hs];exact hargs _ hold
 ·rw [hv,List.append_nil,hs];rfl
 ·refine ⟨?_,[.lit (.bool true)]++ds,[],p,⟨p,[],?_,?_,by simp,?_,fun ha=>hnd ha⟩,?_⟩
  ·intro j t r h1 h2
   rw [hrt] at h1 h2
   cases j with
   | zero =>
    simp at h1
    subst h1
    have:r = .bool true:=by simpa [Value.resultList] using h2.symm
    subst this
    exact Go.RowKit.okWide_bool_mk hb _
   | succ j=>simp at h1
  ·have:=Go.ChangeShapes.trodAll_append (hargs (fun _=>true) (fun _ _=>rfl)) (hres 0 (fun _=>true) true)
   exact this
  ·rw [hv];exact (rfl:DataW.TrodVars enc P W' (fun _=>true) [] [] [])
  ·intro b off hp
   rw [hB.frozen (p:=⟨b,off,none⟩) (by have:=hlt _ hp;simpa [MemPlace.block] using this)]
   exact hfz b off hp
  ·intro x hx _;simpa using hx
end
def RD {α:Type} (P:Program) (t:TypeId) (sz:Nat) (ef:α→AV) (Q:α→Prop):Prop:=∀ (H:Type) (enc:TypeId × Value→H) (W:World) (n:Nat) (cs:List Value) (x:DataW H × List MemPlace),
 DataW.trod enc P W 0 (fun _=>true) true n t cs=some x→∃ a,Q a∧cs.length=sz∧(∀ c∈cs,one c=true)∧VR (cxA W) (ef a) cs
section
variable {P : Program}
theorem rd_int {t:TypeId}{k:IntKind} (ht:P.underlying t=some (.int k)):RD P t 1 (fun x=>AV.v (.int k x)) (fun x=>(Lit.int k x).wf=true):=by
 intro H enc W n cs x h
 obtain ⟨z,rfl,_,hw⟩:=DataW.trod_int ht h
 exact ⟨z,hw,rfl,by simp [one,Value.oneCell'],.v _ rfl⟩
theorem cell_spot {W:World}{a:Addr}{v:Value} (h:W.cell? a=some v):a.spot=none∧a.block < W.heap.size:=by
 unfold World.cell? at h
 split at h
 ·rename_i hb
  split at h
  ·cases h
  ·rename_i hs
   exact ⟨by simpa using hs,(Array.getElem?_eq_some_iff.1 hb).1⟩
 ·cases h
theorem rd_slice {α:Type}{t e:TypeId}{sz:Nat}{ef:α→AV}{Q:α→Prop} (ht:P.underlying t=some (.slice e)) (hc:P.cellsOf e=sz) (h0:0 < sz) (hr:RD P e sz ef Q):RD P t 1 (fun l:List α=>AV.lst false sz (l.map ef)) (fun l=>(∀ a∈l,Q a)∧l.length≤maxLen):=by
 intro H enc W n cs x h
 rcases Go.Deep.open_slice ht h with ⟨rfl,_⟩ | ⟨a,len,cap,m,n',D,Pl,rfl,_,hle,hmax,hm,_,hx⟩
 ·refine ⟨[],⟨by simp,by simp⟩,rfl,by simp [one,Value.oneCell'],?_⟩
  exact .lst false sz [] none 0 (fun _=>[]) (Nat.le_refl _) (by simp) (by simp) (by simp)
 ·have hx2:∀ i,i < len→∃ v,Q v∧∃ cs',W.cells? 0 (a.add (i * sz)) sz=some cs'∧cs'.length=sz∧VR (cxA W) (ef v) cs':=by
   intro i hi
   have him:i < m:=by rw [hm];split <;> omega
   obtain ⟨cs',c1,c2⟩:=hx i him
   rw [hc] at c1
   obtain ⟨v,q1,q2,_,q4⟩:=hr H enc W n' cs' _ c2
   exact ⟨v,q1,cs',c1,q2,q4⟩
  have key:∀ k,k≤len→∃ l:List α,l.length=k∧(∀ v∈l,Q v)∧∀ (i:Nat) v,l[i]? = some v→∃ cs',W.cells? 0 (a.add (i * sz)) sz=some cs'∧cs'.length=sz∧VR (cxA W) (ef v) cs':=by
   intro k
   induction k with
   | zero=>intro _;exact ⟨[],rfl,by simp,by simp⟩
   | succ k ih =>
    intro hk
    obtain ⟨l,l1,l2,l3⟩:=ih (by omega)
    obtain ⟨v,v1,v2⟩:=hx2 k (by omega)
    refine ⟨l++[v],by simp [l1],?_,fun i u hu=>?_⟩
    ·intro u hu
     rcases List.mem_append.1 hu with hu | hu
     ·exact l2 u hu
     ·simp at hu;subst hu;exact v1
    ·rcases Nat.lt_or_ge i l.length with hi | hi
     ·rw [List.getElem?_append_left hi] at hu;exact l3 i u hu
     ·have hi2:i < (l++[v]).length:=(List.getElem?_eq_some_iff.1 hu).1
      simp at hi2
      have:i=l.length:=by omega
      subst this
      simp at hu
      subst hu
      rw [l1];exact v2
  obtain ⟨l,l1,l2,l3⟩:=key len (Nat.le_refl _)
  refine ⟨l,⟨l2,by omega⟩,rfl,by simp [one,Value.oneCell'],?_⟩
  have hcells:∀ i,∃ cs',∀ v,l[i]? = some v→W.cells? 0 (a.add (i * sz)) sz=some cs'∧cs'.length=sz∧VR (cxA W) (ef v) cs':=by
   intro i
   cases hl:l[i]? with
   | none=>exact ⟨[],by intro v h;cases h⟩
   | some v =>
    obtain ⟨cs',h⟩:=l3 i v hl
    exact ⟨cs',by intro u hu;cases hu;exact h⟩
  have hch:=Classical.axiomOfChoice hcells
  obtain ⟨cells,hcl⟩:=hch
  have hsp:0 < len→a.spot=none∧a.block < W.heap.size:=by
   intro hlen
   have hi:l[0]? = some l[0]:=List.getElem?_eq_getElem (by omega)
   obtain ⟨c1,c2,_⟩:=hcl 0 _ hi
   obtain ⟨_,c3,c4⟩:=World.cells?_some c1
   have:=c4 0 h0
   rw [List.getElem?_eq_getElem (by omega)] at this
   have e:(a.add (0 * sz)).add 0=a:=by simp [Addr.add]
   rw [e] at this
   exact cell_spot this
  have:=VR.lst (C:=cxA W) false sz (l.map ef) (some a) cap cells (by simp [l1];exact hle) (by
   intro j x hx
   rw [List.getElem?_map] at hx
   obtain ⟨v,hv,rfl⟩:=Option.map_eq_some_iff.1 hx
   exact (hcl j v hv).2.2) (by
   intro j hj
   simp only [List.length_map] at hj
   exact (hcl j _ (List.getElem?_eq_getElem hj)).2.1) (by
   intro j hj
   simp only [List.length_map] at hj
   obtain ⟨s1,s2⟩:=hsp (by omega)
   have hB:(cxA W).B false a.block:=by
    refine ⟨s2,?_,.inr (.inr ⟨rfl,s2⟩)⟩
    rintro ⟨_,_,_,h,_⟩
    cases h
   refine ⟨a,rfl,s1,hB,fun i u hu=>?_⟩
   obtain ⟨c1,c2,_⟩:=hcl j _ (List.getElem?_eq_getElem hj)
   obtain ⟨_,c3,c4⟩:=World.cells?_some c1
   have hi:i < sz:=by have:=(List.getElem?_eq_some_iff.1 hu).1;omega
   have:=c4 i hi
   rw [hu] at this
   show W.cell? _=_
   rw [← this]
   congr 1
   exact (Go.Deep.add_add a (j * sz) i).symm)
  simpa [l1] using this
end
theorem laid_head {P : Program} {W : World} {name : String} {k : IntKind} {zs : List Int} {rest : List (String × DataW Unit)} {g : Nat} {t e : TypeId} {n : Nat}
    (hg:P.globalNamed name=some g) (hty:(P.globals[g]?).map (·.type)=some t) (ht:P.underlying t=some (.array n e)) (he:P.underlying e=some (.int k)) (hce:P.cellsOf e=1) (hct:P.cellsOf t=n) (h0:0 < zs.length)
    (h:laidMet P ((name,Lib.tabData k zs)::rest) W):∃ ty,W.heap[g]? = some (.cells (zs.map fun z=>Value.int k z).toArray ty (0,0)):=by
 obtain ⟨ps,⟨g',t',cs,fuel,p,q,e1,e2,e3,e4,_,e6⟩,_,hc⟩:=h
 obtain rfl:=Option.some.inj (hg.symm.trans e1)
 obtain rfl:=Option.some.inj (hty.symm.trans e2)
 have hcs:=Lib.cells_of_tab ht he hce hct e4
 have hcs2:cs=(zs.map fun z=>Value.int k z).toArray:=by rw [← hcs]
 have hsz:0 < cs.size:=by rw [hcs2];simpa using h0
 obtain ⟨⟨c,ty,hh⟩,_⟩:=hc g 0 (by
  rw [e6]
  refine List.mem_append_left _ (List.mem_append_left _ (MemPlace.mem_row.2 ⟨0,hsz,rfl⟩)))
 unfold World.var? at e3
 rw [hg] at e3
 simp only [Option.bind_some,hh,Option.some.injEq] at e3
 exact ⟨ty,by rw [hh,e3,hcs2]⟩
end Go.Ar
namespace Go.Ar.Mm
abbrev KK:Nat:=1000
section
variable {α β σ ρ : Type}
theorem ixN {l:List α}{j:Nat}{x:α}{k:α→Option β} (h:l[j]? = some x):ixP l (j:Int) k=k x:=by
 unfold ixP;simp [h]
theorem ix0 {x:α}{l:List α}{k:α→Option β}:ixP (x::l) 0 k=k x:=by unfold ixP;simp
theorem bdN {n j:Nat}{k:Nat→Option β} (h:j < n):bdP n (j:Int) k=k j:=by
 unfold bdP;simp [h]
theorem gtN {l:List α}{j:Nat}{x:α}{k:α→Option β} (h:l[j]? = some x):gtP l j k=k x:=by
 unfold gtP;simp [h]
theorem slN {l:List α}{a b:Nat}{k:List α→Option β} (h1:a≤b) (h2:b≤l.length):slP l (a:Int) (b:Int) k=k ((l.take b).drop a):=by
 unfold slP
 rw [if_pos (by omega),if_pos (by omega),if_pos (by simpa using h2)];simp
theorem slN0 {l:List α}{b:Nat}{k:List α→Option β} (h2:b≤l.length):slP l 0 (b:Int) k=k (l.take b):=by
 have:=slN (l:=l) (a:=0) (b:=b) (k:=k) (Nat.zero_le _) h2
 simpa using this
theorem slNl {l:List α}{a:Nat}{k:List α→Option β} (h2:a≤l.length):slP l (a:Int) (l.length:Int) k=k (l.drop a):=by
 have:=slN (l:=l) (a:=a) (b:=l.length) (k:=k) h2 (Nat.le_refl _)
 simpa using this
theorem apN {b n m:Nat}{k:Option β} (h:n+m≤1000000) (hb:b≤100):apP b n m k=k:=by
 unfold apP
 have:(n+m) * b≤1000000 * 100:=Nat.mul_le_mul h hb
 rw [if_pos (by omega),if_pos (by omega)]
theorem mkN {b n:Nat}{k:Nat→Option β} (h:n≤1000000) (hb:b≤100):mkP b (n:Int) k=k n:=by
 unfold mkP
 have:b * n≤100 * 1000000:=Nat.mul_le_mul hb h
 rw [if_pos (by omega),if_pos (by simp;omega)];simp
theorem nzN {q:Int}{k:Option β} (h:q≠0):nzP q k=k:=by unfold nzP;rw [if_neg h]
theorem nnN {q:Int}{k:Option β} (h:0≤q):nnP q k=k:=by unfold nnP;rw [if_pos h]
theorem guN {c:Prop} [Decidable c] {k:Option β} (h:c):guP c k=k:=by unfold guP;rw [if_pos h]
theorem lenN_ {α β:Type}{l l':List α}{k:Option β} (h:l'.length=l.length):lenP l l' k=k:=by unfold lenP;rw [if_pos h]
theorem w64N {x:Int} (h1 : -1000000000000≤x) (h2:x≤1000000000000):w64 x=x:=w64_of (by omega) (by omega)
theorem w64s {j:Nat} (h:j≤1000000):w64 ((j:Int)+1)=((j+1:Nat):Int):=by rw [w64N] <;> omega
theorem w64c {j:Nat} (h:j≤1000000):w64 (j:Int)=(j:Int):=by rw [w64N] <;> omega
theorem ltT {j n:Nat} (h:j < n):decide ((j:Int) < (n:Int))=true:=by simpa using h
theorem ltF {j n:Nat} (h:n≤j):decide ((j:Int) < (n:Int))=false:=by simpa using h
theorem loopI' (l : List α) (L : Nat → Nat → σ → Option ρ) (G : List α → σ → Option ρ) (Inv : Nat → σ → Prop)
    (h0:∀ n s,Inv l.length s→L (n+1) l.length s=G [] s)
    (h1:∀ n j s x rest,Inv j s→j < l.length→l[j]? = some x→l.drop (j+1)=rest→(∀ s',Inv (j+1) s'→L n (j+1) s'=G rest s')→L (n+1) j s=G (x::rest) s) :
    ∀ m j n s,l.length - j=m→j≤l.length→m < n→Inv j s→L n j s=G (l.drop j) s:=by
 intro m
 induction m with
 | zero =>
  intro j n s hm hj hn hi
  have e:j=l.length:=by omega
  subst e
  obtain ⟨n,rfl⟩:∃ k,n=k+1:=⟨n - 1,by omega⟩
  rw [List.drop_length];exact h0 n s hi
 | succ m ih =>
  intro j n s hm hj hn hi
  have hlt:j < l.length:=by omega
  obtain ⟨n,rfl⟩:∃ k,n=k+1:=⟨n - 1,by omega⟩
  rw [List.drop_eq_getElem_cons hlt]
  exact h1 n j s l[j] _ hi hlt (List.getElem?_eq_getElem hlt) rfl fun s' hs'=>ih (j+1) n s' (by omega) (by omega) (by omega) hs'
theorem loopL (l : List α) (L : Nat → Nat → σ → Option ρ) (G : List α → σ → Option ρ) (Inv : Nat → σ → Prop)
    (h0:∀ n s,Inv l.length s→L (n+1) l.length s=G [] s)
    (h1:∀ n j s x rest,Inv j s→j < l.length→l[j]? = some x→l.drop (j+1)=rest→(∀ s',Inv (j+1) s'→L n (j+1) s'=G rest s')→L (n+1) j s=G (x::rest) s)
    {n:Nat}{s:σ} (hn:l.length < n) (hi:Inv 0 s):L n 0 s=G l s:=by
 have:=loopI' l L G Inv h0 h1 l.length 0 n s (by omega) (by omega) hn hi
 simpa using this
theorem loopC (m : Nat) (L : Nat → Nat → σ → Option ρ) (G : Nat → σ → Option ρ) (Inv : Nat → σ → Prop)
    (h0:∀ n s,Inv m s→L (n+1) m s=G m s)
    (h1:∀ n j s,Inv j s→j < m→(∀ s',Inv (j+1) s'→L n (j+1) s'=G (j+1) s')→L (n+1) j s=G j s) :
    ∀ {j n:Nat}{s:σ},j≤m→m - j < n→Inv j s→L n j s=G j s:=by
 intro j n s hj hn hi
 generalize hd:m - j=d at hn
 induction d generalizing j n s with
 | zero =>
  have e:j=m:=by omega
  subst e
  obtain ⟨n,rfl⟩:∃ k,n=k+1:=⟨n - 1,by omega⟩
  exact h0 n s hi
 | succ d ih =>
  obtain ⟨n,rfl⟩:∃ k,n=k+1:=⟨n - 1,by omega⟩
  exact h1 n j s hi (by omega) fun s' hs'=>ih (by omega) hs' (by omega) (by omega)
end
theorem idx_ne {α:Type} [DecidableEq α] {x y:α}{l:List α} (h:y≠x):(y::l).idxOf x=l.idxOf x+1:=by
 rw [List.idxOf_cons];have:(y == x)=false:=by simpa using h
 simp [this]
def plc (l:List Int) (x:Int):Int:=if x∈l then (l.idxOf x:Int) else -1
theorem r13_Place {l:List Int} (x:Int) (hl:l.length < 1000):p_dk KK l x=some (plc l x):=by
 have key:∀ j:Nat,j≤l.length→∀ n,l.length - j < n→p_bL KK l x n (j:Int)=if x∈l.drop j then some (.inr (((l.drop j).idxOf x+j:Nat):Int)) else some (.inl ()):=by
  intro j hj n hn
  have:=loopI' (σ:=Unit) l (fun n j _=>p_bL KK l x n (j:Int)) (fun r _=>if x∈r then some (.inr (((r.idxOf x:Int)+l.length - r.length))) else some (.inl ())) (fun _ _=>True)
   (fun n s _=>by
    simp only [p_bL,ltF (Nat.le_refl _),cond_false,List.not_mem_nil,if_false])
   (fun n j s y rest _ hlt hx hr ih=>by
    have ih:=ih () trivial
    have hlen:rest.length=l.length - (j+1):=by rw [← hr];simp
    simp only [p_bL,ltT hlt,cond_true,ixN hx]
    by_cases e:y=x
    ·subst e
     simp;omega
    ·have e1:(y == x)=false:=by simpa using e
     have e2:¬ x=y:=fun h=>e h.symm
     rw [e1,cond_false,w64s (by omega),ih]
     simp only [List.mem_cons,e2,false_or]
     split
     ·rw [idx_ne e];simp only [List.length_cons];congr 2;omega
     ·rfl)
   (l.length - j) j n () rfl hj hn trivial
  rw [this]
  split
  ·congr 2;simp;omega
  ·rfl
 have:=key 0 (Nat.zero_le _) KK (by show _ < 1000;omega)
 unfold p_dk
 rw [show (0:Int)=((0:Nat):Int) from rfl,this]
 simp only [List.drop_zero,plc]
 split <;> rfl
theorem idx_eq:∀ (l:List Int) (x:Int) (n:Nat) (i:Int),p_8 KK l x n i=p_bL KK l x n i:=by
 intro l x n
 induction n with
 | zero=>intro i;rfl
 | succ n ih =>
  intro i
  simp only [p_8,p_bL,ih]
  have:∀ v:Int,(x == v)=(v == x):=fun v=>by rw [Bool.eq_iff_iff];simp only [beq_iff_eq];exact eq_comm
  simp only [this]
theorem slices_Index {l:List Int} (x:Int) (hl:l.length < 1000):p_7 KK l x=some (plc l x):=by
 have:=r13_Place x hl
 unfold p_dk at this
 unfold p_7
 rw [idx_eq];exact this
theorem slices_Contains {l:List Int} (x:Int) (hl:l.length < 1000):p_I KK l x=some (decide (x∈l)):=by
 unfold p_I
 rw [slices_Index x hl]
 simp only [Option.bind_some,plc]
 split
 ·simp_all
 ·simp_all
end Go.Ar.Mm
namespace Go.Ar.Mm
structure Rg (l:List Int):Prop where
 len:l.length < 900
 rng:∀ x∈l,0≤x∧x≤10000
 nd:l.Nodup
theorem r13_Right {l:List Int} (h:Rg l):p_dl KK l=some true:=by
 have hl:=h.len
 have := loopL (σ := Unit) (ρ := Sum Unit Bool) l (fun n j _ => p_cN KK l n (j : Int)) (fun _ _ => some (.inl ())) (fun _ _ => True)
     (fun n s _=>by simp only [p_cN,ltF (Nat.le_refl _),cond_false])
     (fun n j s y rest _ hlt hx hr ih=>by
      have ih:=ih () trivial
      have hy:=h.rng y (List.mem_of_getElem? hx)
      have e1:decide (y < 0)=false:=by simpa using hy.1
      have e2:decide (y > 10000)=false:=by simpa using hy.2
      have hn:y ∉ l.take j:=by
       intro hm
       obtain ⟨i,hi,e⟩:=List.mem_take_iff_getElem.1 hm
       have hil:i < l.length:=by omega
       have h1:l[i]? = some y:=by rw [List.getElem?_eq_getElem hil,e]
       have:=(List.getElem?_inj hil h.nd).1 (h1.trans hx.symm)
       omega
      simp only [p_cN,ltT hlt,cond_true,ixN hx,e1,e2,cond_false,slN0 (Nat.le_of_lt hlt)]
      rw [r13_Place y (by simp;omega)]
      simp only [Option.bind_some,plc,if_neg hn]
      rw [show decide ((-1:Int)≥0)=false from rfl,cond_false,w64s (by omega)]
      exact ih)
     (n:=KK) (s:=()) (by show _ < 1000;omega) trivial
 unfold p_dl
 rw [show decide ((l.length:Int) > 1000)=false by simp;omega,cond_false]
 rw [show (0:Int)=((0:Nat):Int) from rfl,this];rfl
theorem contains_no {l:List Int}{f:Int→Option Bool} (hl:l.length < 1000) (h:∀ x∈l,f x=some false):p_e KK l f=some false:=by
 have := loopL (σ := Unit) (ρ := Sum Unit Int) l (fun n j _ => p_c KK l f n (j : Int)) (fun _ _ => some (.inl ())) (fun _ _ => True)
     (fun n s _=>by simp only [p_c,ltF (Nat.le_refl _),cond_false])
     (fun n j s y rest _ hlt hx hr ih=>by
      have ih:=ih () trivial
      simp only [p_c,ltT hlt,cond_true,ixN hx,h y (List.mem_of_getElem? hx),Option.bind_some,cond_false]
      rw [w64s (by omega)]
      exact ih)
     (n:=KK) (s:=()) hl trivial
 unfold p_e p_A
 rw [show (0:Int)=((0:Nat):Int) from rfl,this];rfl
theorem set_new {ν:Type}{m:Mp Int ν}{k:Int}{v:ν} (h:k ∉ m.l.map (·.1)):(m.set k v).l=m.l++[(k,v)]:=by simp [Mp.set,Mp.setL,h]
theorem ring_Right {l:List Int} (h:Rg l):p_c3 KK l=some true:=by
 have hl:=h.len
 have h1:p_e KK l (fun x0=>p_dZ KK x0)=some false:=contains_no (by omega) fun x hx=>by
  have:=h.rng x hx
  unfold p_dZ
  rw [show decide (x < 0)=false by simpa using this.1,cond_false]
  simpa using this.2
 have h2:p_by KK l KK ((0:Nat):Int) (Mp.empty:Mp Int Int)=some (l.foldl (fun m x=>m.set x (w64 (((m.get? x).getD 0)+1))) Mp.empty) :=
  loopL (ρ:=Mp Int Int) l (fun n j m=>p_by KK l n (j:Int) m) (fun r m=>some (r.foldl (fun m x=>m.set x (w64 (((m.get? x).getD 0)+1))) m)) (fun _ _=>True)
   (fun n s _=>by simp only [p_by,ltF (Nat.le_refl _),cond_false];rfl)
   (fun n j s y rest _ hlt hx hr ih=>by
    have ih:=ih (s.set y (w64 (((s.get? y).getD 0)+1))) trivial
    simp only [p_by,ltT hlt,cond_true,ixN hx]
    rw [w64s (by omega)]
    exact ih)
   (n:=KK) (by show _ < 1000;omega) trivial
 have h3:∀ (r:List Int) (m:Mp Int Int),(m.l.map (·.1)++r).Nodup→((r.foldl (fun m x=>m.set x (w64 (((m.get? x).getD 0)+1))) m).l.map (·.1))=m.l.map (·.1)++r:=by
  intro r
  induction r with
  | nil=>intro m _;simp
  | cons x r ih =>
   intro m hn
   have hx:x ∉ m.l.map (·.1):=fun hm=>(List.nodup_append.1 hn).2.2 x hm x (by simp) rfl
   have e:=set_new (v:=w64 (((m.get? x).getD 0)+1)) hx
   rw [List.foldl_cons,ih]
   ·rw [e];simp
   ·rw [e];simpa using hn
 unfold p_c3 p_eB
 rw [show decide ((l.length:Int) > 1000)=false by simp;omega,cond_false,h1]
 simp only [Option.bind_some,Bool.not_false,cond_true]
 rw [show (0:Int)=((0:Nat):Int) from rfl,h2]
 simp only [Option.bind_some]
 have:(l.foldl (fun m x=>m.set x (w64 (((m.get? x).getD 0)+1))) (Mp.empty:Mp Int Int)).l.length=l.length:=by
  rw [← List.length_map (f:=fun p:Int × Int=>p.1),h3 l Mp.empty (by simpa [Mp.empty] using h.nd)]
  simp [Mp.empty]
 simp only [Mp.len,this]
 simp
end Go.Ar.Mm
namespace Go.Ar.Mm
def trn (l:List Int) (x:Int):List Int:=l.drop (l.idxOf x)++l.take (l.idxOf x)
theorem trn_len (l:List Int) (x:Int):(trn l x).length=l.length:=by simp [trn];omega
theorem r13_From {l:List Int} (h:Rg l) {x:Int} (hx:x∈l):p_fs KK l x=some (trn l x,true):=by
 have hl:=h.len
 have hi:l.idxOf x < l.length:=List.idxOf_lt_length_of_mem hx
 unfold p_fs
 rw [r13_Place x (by omega),r13_Right h]
 simp only [Option.bind_some,plc,if_pos hx,Bool.not_true,cond_false]
 rw [show decide (((l.idxOf x:Nat):Int) < 0)=false by simp,cond_false,slNl (by omega),apN (by simp;omega) (by omega),slN0 (by omega),apN (by simp;omega) (by omega)]
 rfl
theorem concat2 {ls:List (List Int)} (h:(ls.map List.length).sum < 100000) (hl:ls.length < 1000):p_bn KK ls=some ls.flatten:=by
 have h1:p_m KK ls KK 0 ((0:Nat):Int)=some ((ls.map List.length).sum:Int):=by
  have:=loopL (σ:=Int) (ρ:=Int) ls (fun n j s=>p_m KK ls n s (j:Int)) (fun r s=>some (s+((r.map List.length).sum:Nat))) (fun j s=>s=(((ls.take j).map List.length).sum:Nat))
   (fun n s _=>by simp only [p_m,ltF (Nat.le_refl _),cond_false];simp)
   (fun n j s y rest hs hlt hx hr ih=>by
    have e:ls=ls.take j++y::rest:=by
     rw [← hr]
     obtain ⟨hj,e⟩:=List.getElem?_eq_some_iff.1 hx
     rw [← e,← List.drop_eq_getElem_cons hj,List.take_append_drop]
    have e2:=congrArg (fun l=>(l.map List.length).sum) e
    simp only [List.map_append,List.sum_append,List.map_cons,List.sum_cons] at e2
    have hw:w64 (s+(y.length:Int))=s+(y.length:Int):=by rw [w64N] <;> omega
    have ih:=ih (s+(y.length:Int)) (by
     rw [List.take_add_one,hx];simp only [Option.toList_some,List.map_append,List.map_cons,List.map_nil,List.sum_append,List.sum_cons,List.sum_nil];rw [hs];omega)
    simp only [p_m,ltT hlt,cond_true,ixN hx,hw]
    rw [show decide (s+(y.length:Int) < 0)=false by simp;omega,cond_false,w64s (by omega),ih]
    simp only [List.map_cons,List.sum_cons];congr 1;omega)
   (n:=KK) (s:=0) hl rfl
  simpa using this
 have h2:p_n KK ls KK ((0:Nat):Int) ([]:List Int)=some ([]++ls.flatten) :=
  loopL (σ:=List Int) (ρ:=List Int) ls (fun n j s=>p_n KK ls n (j:Int) s) (fun r s=>some (s++r.flatten)) (fun j s=>s.length=((ls.take j).map List.length).sum)
   (fun n s _=>by simp only [p_n,ltF (Nat.le_refl _),cond_false];simp)
   (fun n j s y rest hs hlt hx hr ih=>by
    have e:ls=ls.take j++y::rest:=by
     rw [← hr]
     obtain ⟨hj,e⟩:=List.getElem?_eq_some_iff.1 hx
     rw [← e,← List.drop_eq_getElem_cons hj,List.take_append_drop]
    have e2:=congrArg (fun l=>(l.map List.length).sum) e
    simp only [List.map_append,List.sum_append,List.map_cons,List.sum_cons] at e2
    have ih:=ih (s++y) (by
     rw [List.take_add_one,hx];simp only [Option.toList_some,List.map_append,List.map_cons,List.map_nil,List.sum_append,List.sum_cons,List.sum_nil,List.length_append];rw [hs];omega)
    simp only [p_n,ltT hlt,cond_true,ixN hx]
    rw [apN (by omega) (by omega),w64s (by omega),ih]
    simp)
   (n:=KK) hl (by simp)
 unfold p_bn
 rw [show (0:Int)=((0:Nat):Int) from rfl]
 rw [show ((0:Nat):Int)=0 from rfl] at h1 ⊢
 rw [h1]
 simp only [Option.bind_some]
 rw [mkN (by omega) (by omega)]
 rw [show ((0:Nat):Int)=0 from rfl] at h2
 rw [h2];simp
theorem ring_turned {l:List Int}{i:Nat} (hi:i≤l.length) (hl:l.length < 900):p_dG KK l (i:Int)=some (l.drop i++l.take i):=by
 unfold p_dG
 rw [slNl hi,slN0 hi,concat2 (by simp;omega) (by simp)]
 simp
theorem ring_From {l:List Int} (h:Rg l) {x:Int} (hx:x∈l):p_er KK l x=some (trn l x,true):=by
 have hl:=h.len
 have hi:l.idxOf x < l.length:=List.idxOf_lt_length_of_mem hx
 have h1:p_b1 KK [x] l KK 0 []=some [plc l x]:=by
  have:=loopL (σ:=List Int) (ρ:=List Int) [x] (fun n j s=>p_b1 KK [x] l n (j:Int) s) (fun r s=>some (s++r.map (plc l))) (fun j s=>s.length=j)
   (fun n s _=>by simp only [p_b1,ltF (Nat.le_refl _),cond_false];simp)
   (fun n j s y rest hs hlt hx hr ih=>by
    have ih:=ih (s++[plc l y]) (by simp [hs])
    simp at hlt
    simp only [p_b1,List.length_singleton,ltT (show j < 1 by omega),cond_true,ixN hx,slices_Index y (show l.length < 1000 by omega),Option.bind_some]
    rw [apN (by omega) (by omega),w64s (by omega),ih];simp)
   (n:=KK) (s:=[]) (by show 1 < 1000;omega) rfl
  simpa using this
 have hp:plc l x=(l.idxOf x:Int):=by simp [plc,hx]
 unfold p_er p_fc
 rw [ring_Right h]
 simp only [Option.bind_some,Bool.not_true,cond_false,h1]
 rw [slices_Contains _ (by simp)]
 simp only [Option.bind_some,List.mem_singleton]
 rw [show decide ((-1:Int)=plc l x)=false by rw [hp];simp]
 simp only [Bool.not_false,Bool.not_true,cond_false,ix0]
 rw [hp,ring_turned (by omega) hl]
 rfl
def mn (l:List Int) (d:Int):Int:=l.foldl (fun a b=>if b < a then b else a) d
theorem mn_self (l:List Int) (d:Int):mn (d::l) d=mn l d:=by simp [mn]
theorem r13_Plain_L1 {l:List Int} (hl:l.length < 1000) (d:Int):p_dp KK l KK d 0=some (mn l d):=by
 have := loopL (σ := Int) (ρ := Int) l (fun n j s => p_dp KK l n s (j : Int)) (fun r s => some (mn r s)) (fun _ _ => True)
     (fun n s _=>by simp only [p_dp,ltF (Nat.le_refl _),cond_false];rfl)
     (fun n j s y rest _ hlt hx hr ih=>by
      have ih:=ih (if y < s then y else s) trivial
      simp only [p_dp,ltT hlt,cond_true,ixN hx]
      rw [w64s (by omega),ih]
      rfl)
     (n:=KK) (s:=d) hl trivial
 simpa using this
theorem min_L1 {l:List Int}{y:Int} (hl:(y::l).length < 1000):p_W KK (y::l)=some (mn (y::l) y):=by
 have := loopI' (σ := Int) (ρ := Int) (y :: l) (fun n j s => p_S KK (y :: l) n s (j : Int)) (fun r s => some (mn r s)) (fun _ _ => True)
     (fun n s _=>by simp only [p_S,ltF (Nat.le_refl _),cond_false];rfl)
     (fun n j s z rest _ hlt hx hr ih=>by
      have ih:=ih (if z < s then z else s) trivial
      simp only [p_S,ltT hlt,cond_true,ixN hx]
      rw [w64s (by omega),ih]
      rfl)
     l.length 1 KK y (by simp) (by simp) (by simp at hl;show _ < 1000;omega) trivial
 unfold p_W
 rw [show decide (((y::l).length:Int) < 1)=false by simp;omega,cond_false]
 simp only [Option.bind_some,ix0]
 rw [show (1:Int)=((1:Nat):Int) from rfl,this]
 simp [mn_self]
theorem r13_Plain {l:List Int} (h:Rg l) {y:Int}{t:List Int} (e:l=y::t) (hm:mn l y∈l):p_ew KK l=some (trn l (mn l y)):=by
 have hl:=h.len
 unfold p_ew
 rw [r13_Right h]
 simp only [Option.bind_some,Bool.not_true,cond_false]
 rw [show ((l.length:Int) == 0)=false by subst e;simp;omega,cond_false]
 have:∀ k:Int→Option (List Int),ixP l 0 k=k y:=fun k=>by subst e;exact ix0
 rw [this,r13_Plain_L1 (by omega)]
 simp only [Option.bind_some]
 rw [r13_From h hm];rfl
theorem ring_Plain {l:List Int} (h:Rg l) {y:Int}{t:List Int} (e:l=y::t) (hm:mn l y∈l):p_d1 KK l=some (trn l (mn l y)):=by
 have hl:=h.len
 have hi:l.idxOf (mn l y) < l.length:=List.idxOf_lt_length_of_mem hm
 unfold p_d1
 rw [ring_Right h]
 simp only [Option.bind_some,Bool.not_true,cond_false]
 rw [show ((l.length:Int) == 0)=false by subst e;simp;omega,cond_false]
 have:p_W KK l=some (mn l y):=by subst e;exact min_L1 (by omega)
 rw [this]
 simp only [Option.bind_some]
 rw [slices_Index _ (by omega)]
 simp only [Option.bind_some,plc,if_pos hm]
 rw [ring_turned (by omega) hl];rfl
end Go.Ar.Mm
namespace ArTour
inductive Tok where
 | V (v:Nat)
 | A (u v:Nat)
 deriving DecidableEq,Repr
open Tok
def Tok.stand:Tok→Nat
 | V v=>v
 | A _ v=>v
inductive Ex:Bool→Nat→List Tok→Prop
 | nil (r):Ex false r []
 | tok (r s):Ex false r s→Ex true r (V r::s)
 | go (b r c s1 s2):Ex true c s1→Ex b r s2→Ex b r (A r c::(s1++A c r::s2))
def pos (r:Nat) (x:List Tok):Nat:=x.foldl (fun _ t=>t.stand) r
@[simp] theorem pos_nil (r):pos r []=r:=rfl
@[simp] theorem pos_cons (r t x):pos r (t::x)=pos t.stand x:=rfl
theorem pos_append (r x y):pos r (x++y)=pos (pos r x) y:=by simp [pos,List.foldl_append]
theorem Ex.pos_end {b r s} (h:Ex b r s):pos r s=r:=by
 induction h with
 | nil=>rfl
 | tok r s _ ih=>simpa [Tok.stand] using ih
 | go b r c s1 s2 _ _ ih1 ih2=>simp [pos_append,Tok.stand,ih1,ih2]
theorem split_mid {α} {s1 s2 x y : List α} {a : α} (h : s1 ++ a :: s2 = x ++ y) :
    (∃ y',s1=x++y'∧y=y'++a::s2)∨(∃ x',x=s1++a::x'∧s2=x'++y):=by
 rcases List.append_eq_append_iff.1 h with ⟨t,hx,hy⟩ | ⟨t,hx,hy⟩
 ·cases t with
  | nil=>left;exact ⟨[],by simpa using hx.symm,by simpa using hy.symm⟩
  | cons c t =>
   right
   simp only [List.cons_append,List.cons.injEq] at hy
   obtain ⟨rfl,hy⟩:=hy
   exact ⟨t,hx,hy⟩
 ·left;exact ⟨t,hx,hy⟩
theorem Ex.insert {b r s} (h:Ex b r s):∀ {x y q m},s=x++y→Ex true q m→Ex b r (x++A (pos r x) q::(m++A q (pos r x)::y)):=by
 induction h with
 | nil r =>
  intro x y q m e hm
  have:=List.append_eq_nil_iff.1 e.symm
  obtain ⟨rfl,rfl⟩:=this
  exact .go _ _ _ _ _ hm (.nil r)
 | tok r s hs ih =>
  intro x y q m e hm
  cases x with
  | nil =>
   simp only [List.nil_append] at e
   subst e
   exact .go _ _ _ _ _ hm (.tok _ _ hs)
  | cons a x =>
   simp only [List.cons_append,List.cons.injEq] at e
   obtain ⟨rfl,rfl⟩:=e
   exact .tok _ _ (ih rfl hm)
 | go b r c s1 s2 h1 h2 ih1 ih2 =>
  intro x y q m e hm
  cases x with
  | nil =>
   simp only [List.nil_append] at e
   subst e
   exact .go _ _ _ _ _ hm (.go _ _ _ _ _ h1 h2)
  | cons a x =>
   simp only [List.cons_append,List.cons.injEq] at e
   obtain ⟨rfl,e⟩:=e
   rcases split_mid e with ⟨y',rfl,rfl⟩ | ⟨x',rfl,rfl⟩
   ·have:=Ex.go _ _ _ _ _ (ih1 (x:=x) (y:=y') rfl hm) h2
    simpa [Tok.stand] using this
   ·have:=Ex.go _ _ _ _ _ h1 (ih2 (x:=x') (y:=y) rfl hm)
    simpa [pos_append,Tok.stand,h1.pos_end] using this
theorem Ex.snoc {b r s} (h:Ex b r s):b=false→Ex true r (s++[V r]):=by
 induction h with
 | nil r=>intro _;exact .tok _ _ (.nil r)
 | tok=>intro h;cases h
 | go b r c s1 s2 h1 h2 _ ih2 =>
  intro hb
  have:=Ex.go _ _ _ _ _ h1 (ih2 hb)
  simpa using this
theorem Ex.rot {b r s} (h:Ex b r s):∀ {x y},s=x++y→Ex true (pos r x) (y++(if b then x else V r::x)):=by
 induction h with
 | nil r =>
  intro x y e
  obtain ⟨rfl,rfl⟩:=List.append_eq_nil_iff.1 e.symm
  exact .tok _ _ (.nil r)
 | tok r s hs ih =>
  intro x y e
  cases x with
  | nil =>
   simp only [List.nil_append] at e
   subst e
   simpa using Ex.tok _ _ hs
  | cons a x =>
   simp only [List.cons_append,List.cons.injEq] at e
   obtain ⟨rfl,rfl⟩:=e
   have:=ih (x:=x) (y:=y) rfl
   simpa [Tok.stand] using this
 | go b r c s1 s2 h1 h2 ih1 ih2 =>
  intro x y e
  cases x with
  | nil =>
   simp only [List.nil_append] at e
   subst e
   cases b with
   | true=>simpa using Ex.go _ _ _ _ _ h1 h2
   | false =>
    have:=(Ex.go _ _ _ _ _ h1 h2).snoc rfl
    simpa using this
  | cons a x =>
   simp only [List.cons_append,List.cons.injEq] at e
   obtain ⟨rfl,e⟩:=e
   rcases split_mid e with ⟨y',rfl,rfl⟩ | ⟨x',rfl,rfl⟩
   ·have hr:=ih1 (x:=x) (y:=y') rfl
    simp only [if_true] at hr
    have hpos:pos (pos c x) y'=c:=by rw [← pos_append];exact h1.pos_end
    cases b with
    | true =>
     have:=hr.insert (x:=y') (y:=x) rfl h2
     rw [hpos] at this
     simpa [Tok.stand] using this
    | false =>
     have:=hr.insert (x:=y') (y:=x) rfl (h2.snoc rfl)
     rw [hpos] at this
     simpa [Tok.stand] using this
   ·have hr:=ih2 (x:=x') (y:=y) rfl
    have hp:pos (pos r x') y=r:=by rw [← pos_append];exact h2.pos_end
    cases b with
    | true =>
     simp only [if_true] at hr
     have:=hr.insert (x:=y) (y:=x') rfl h1
     rw [hp] at this
     simpa [pos_append,Tok.stand,h1.pos_end] using this
    | false =>
     simp only [Bool.false_eq_true,if_false] at hr
     have:=hr.insert (x:=y++[V r]) (y:=x') (by simp) h1
     have hp':pos (pos r x') (y++[V r])=r:=by simp [pos_append,Tok.stand]
     rw [hp'] at this
     simpa [pos_append,Tok.stand,h1.pos_end] using this
def vs (s:List Tok):List Nat:=s.filterMap fun | V v=>some v | _=>none
@[simp] theorem vs_nil:vs []=[]:=rfl
@[simp] theorem vs_V (v s):vs (V v::s)=v::vs s:=rfl
@[simp] theorem vs_A (u v s):vs (A u v::s)=vs s:=rfl
@[simp] theorem vs_append (s t):vs (s++t)=vs s++vs t:=by simp [vs]
theorem mem_vs {s v}:v∈vs s↔V v∈s:=by
 simp only [vs,List.mem_filterMap]
 constructor
 ·rintro ⟨a,ha,h⟩
  cases a <;> simp at h
  subst h;exact ha
 ·intro h;exact ⟨_,h,rfl⟩
theorem Ex.own {b r s} (h:Ex b r s):b=true→r∈vs s:=by
 induction h with
 | nil=>intro h;cases h
 | tok=>intro _;simp
 | go b r c s1 s2 _ _ _ ih2=>intro hb;simp [ih2 hb]
theorem Ex.len {b r s} (h:Ex b r s):s.length+(if b then 2 else 0)=3 * (vs s).length:=by
 induction h with
 | nil=>rfl
 | tok r s _ ih=>simp at ih ⊢;omega
 | go b r c s1 s2 _ _ ih1 ih2=>simp at ih1 ih2 ⊢;cases b <;> simp at ih2 ⊢ <;> omega
theorem Ex.arcs {b r s} (h:Ex b r s):∀ {u v},A u v∈s→(u=r∨u∈vs s)∧(v=r∨v∈vs s):=by
 induction h with
 | nil=>intro u v h;cases h
 | tok r s _ ih=>intro u v h;simp at h;have:=ih h;simp;omega
 | go b r c s1 s2 h1 h2 ih1 ih2 =>
  intro u v h
  have hc:=h1.own rfl
  simp only [List.mem_cons,List.mem_append,Tok.A.injEq] at h
  simp only [vs_A,vs_append,List.mem_append]
  rcases h with ⟨rfl,rfl⟩ | h | ⟨rfl,rfl⟩ | h
  ·exact ⟨.inl rfl,.inr (.inl hc)⟩
  ·obtain ⟨a,b⟩:=ih1 h
   constructor
   ·rcases a with rfl | a
    ·exact .inr (.inl hc)
    ·exact .inr (.inl a)
   ·rcases b with rfl | b
    ·exact .inr (.inl hc)
    ·exact .inr (.inl b)
  ·exact ⟨.inr (.inl hc),.inl rfl⟩
  ·obtain ⟨a,b⟩:=ih2 h
   constructor
   ·rcases a with rfl | a
    ·exact .inl rfl
    ·exact .inr (.inr a)
   ·rcases b with rfl | b
    ·exact .inl rfl
    ·exact .inr (.inr b)
theorem Ex.leaf {b r s} (h:Ex b r s):(∃ u v,A u v∈s)→∃ x y c,s=x++A (pos r x) c::V c::A c (pos r x)::y:=by
 induction h with
 | nil=>rintro ⟨u,v,h⟩;cases h
 | tok r s _ ih =>
  rintro ⟨u,v,h⟩
  simp only [List.mem_cons,reduceCtorEq,false_or] at h
  obtain ⟨x,y,c,e⟩:=ih ⟨u,v,h⟩
  exact ⟨V r::x,y,c,by simp [Tok.stand];exact e⟩
 | go b r c s1 s2 h1 h2 ih1 ih2 =>
  intro _
  by_cases ha:∃ u v,A u v∈s1
  ·obtain ⟨x,y,d,e⟩:=ih1 ha
   refine ⟨A r c::x,y++A c r::s2,d,?_⟩
   simp only [pos_cons,Tok.stand]
   rw [e];simp
  ·have:s1=[V c]:=by
    cases h1 with
    | tok r s hs =>
     cases hs with
     | nil=>rfl
     | go b r c s1 s2=>exact absurd ⟨_,_,List.mem_cons_of_mem _ List.mem_cons_self⟩ ha
    | go b r c s1 s2=>exact absurd ⟨_,_,List.mem_cons_self⟩ ha
   subst this
   exact ⟨[],s2,c,by simp⟩
theorem Ex.unleaf {b u v rest} (h:Ex b u (A u v::V v::A v u::rest)) (hn:(vs (A u v::V v::A v u::rest)).Nodup) (hb:b=true):Ex true u rest:=by
 subst hb
 generalize e:A u v::V v::A v u::rest=s at h
 cases h with
 | tok=>simp at e
 | go _ _ c s1 s2 h1 h2 =>
  simp only [List.cons.injEq,Tok.A.injEq,true_and] at e
  obtain ⟨rfl,e⟩:=e
  cases h1 with
  | go=>simp at e
  | tok _ s hs =>
   simp only [List.cons_append,List.cons.injEq,true_and] at e
   cases hs with
   | nil=>simp at e;rw [e];exact h2
   | go _ _ d t1 t2 ht1 ht2 =>
    simp only [List.cons_append,List.cons.injEq,Tok.A.injEq,true_and] at e
    obtain ⟨rfl,e⟩:=e
    have a:=ht1.own rfl
    have b:=h2.own rfl
    subst e
    simp only [vs_A,vs_V,vs_append,List.nodup_cons,List.append_assoc,List.cons_append] at hn
    have:=(List.nodup_append.1 hn.2).2.2 u a u (by simp [b])
    exact absurd rfl this
def Ring (l:List Tok):Prop:=∃ r,Ex true r l
theorem Ring.rot {x y} (h:Ring (x++y)):Ring (y++x):=by
 obtain ⟨r,h⟩:=h
 exact ⟨_,by simpa using h.rot rfl⟩
theorem Ex.head_V {r v l} (h:Ex true r (V v::l)):r=v:=by cases h;rfl
theorem Ex.head_A {r u v l} (h:Ex true r (A u v::l)):r=u:=by cases h;rfl
theorem Ring.nodup {b r s} (h:Ex b r s) (hn:(vs s).Nodup) (hr:b=false→r ∉ vs s):s.Nodup:=by
 induction h with
 | nil=>simp
 | tok r s hs ih =>
  simp only [vs_V,List.nodup_cons] at hn
  refine List.nodup_cons.2 ⟨fun hm=>hn.1 (mem_vs.2 hm),ih hn.2 fun _=>hn.1⟩
 | go b r c s1 s2 h1 h2 ih1 ih2 =>
  simp only [vs_A,vs_append] at hn hr
  obtain ⟨n1,n2,n12⟩:=List.nodup_append.1 hn
  have d1:=ih1 n1 (by simp)
  have d2:=ih2 n2 (fun hb hm=>hr hb (by simp [hm]))
  have hc:=h1.own rfl
  have rc:r≠c:=by
   rintro rfl
   cases b with
   | true=>exact n12 r hc r (h2.own rfl) rfl
   | false=>exact hr rfl (by simp [hc])
  have r1:r ∉ vs s1:=by
   intro hm
   cases b with
   | true=>exact n12 r hm r (h2.own rfl) rfl
   | false=>exact hr rfl (by simp [hm])
  have c2:c ∉ vs s2:=fun hm=>n12 c hc c hm rfl
  have k1:∀ u v,A u v∈s1→u≠r∧v≠r:=by
   intro u v hm
   obtain ⟨a,b⟩:=h1.arcs hm
   constructor
   ·rintro rfl;rcases a with a | a
    ·exact rc a
    ·exact r1 a
   ·rintro rfl;rcases b with a | a
    ·exact rc a
    ·exact r1 a
  have k2:∀ u v,A u v∈s2→u≠c∧v≠c:=by
   intro u v hm
   obtain ⟨a,b⟩:=h2.arcs hm
   constructor
   ·rintro rfl;rcases a with a | a
    ·exact rc a.symm
    ·exact c2 a
   ·rintro rfl;rcases b with a | a
    ·exact rc a.symm
    ·exact c2 a
  rw [List.nodup_cons]
  refine ⟨?_,List.nodup_append.2 ⟨d1,List.nodup_cons.2 ⟨fun hm=>(k2 _ _ hm).1 rfl,d2⟩,?_⟩⟩
  ·simp only [List.mem_append,List.mem_cons,Tok.A.injEq]
   rintro (hm | ⟨e,_⟩ | hm)
   ·exact (k1 _ _ hm).1 rfl
   ·exact rc e
   ·exact (k2 _ _ hm).2 rfl
  ·intro a ha b hb e
   subst e
   simp only [List.mem_cons] at hb
   rcases hb with rfl | hb
   ·exact (k1 _ _ ha).2 rfl
   ·cases a with
    | V v=>exact n12 v (mem_vs.2 ha) v (mem_vs.2 hb) rfl
    | A u v =>
     obtain ⟨a1,_⟩:=h1.arcs ha
     obtain ⟨b1,_⟩:=h2.arcs hb
     have hu:u∈vs s1:=by
      rcases a1 with rfl | a1
      ·exact hc
      ·exact a1
     rcases b1 with rfl | b1
     ·exact (k1 _ _ ha).1 rfl
     ·exact n12 u hu u b1 rfl
end ArTour
namespace ArConn
abbrev E:=Nat × Nat
def lab1 (f:Nat→Nat) (e:E):Nat→Nat :=
 fun v=>if f v=max (f e.1) (f e.2) then min (f e.1) (f e.2) else f v
def lab (l:List E):Nat→Nat:=l.foldl lab1 id
inductive Conn (l:List E):Nat→Nat→Prop
 | refl (u):Conn l u u
 | step {u v w}:Conn l u v→((v,w)∈l∨(w,v)∈l)→Conn l u w
theorem Conn.trans {l u v w} (h:Conn l u v) (k:Conn l v w):Conn l u w:=by
 induction k with
 | refl=>exact h
 | step _ e ih=>exact ih.step e
theorem Conn.edge {l u v} (h:(u,v)∈l):Conn l u v:=.step (.refl _) (.inl h)
theorem Conn.symm {l u v} (h:Conn l u v):Conn l v u:=by
 induction h with
 | refl=>exact .refl _
 | step _ e ih=>exact (Conn.step (.refl _) e.symm).trans ih
theorem Conn.mono {l m u v} (h:Conn l u v) (k:∀ e∈l,e∈m):Conn m u v:=by
 induction h with
 | refl=>exact .refl _
 | step _ e ih=>exact ih.step (e.imp (k _) (k _))
theorem lab_snoc (l:List E) (e:E):lab (l++[e])=lab1 (lab l) e:=by simp [lab,List.foldl_append]
theorem lab_le (l:List E):∀ v,lab l v≤v:=by
 suffices h:∀ m:List E,∀ v,lab m.reverse v≤v by simpa using h l.reverse
 intro m
 induction m with
 | nil=>intro v;exact Nat.le_refl v
 | cons e m ih =>
  intro v
  rw [List.reverse_cons,lab_snoc]
  unfold lab1
  have h1:=ih v
  split
  ·rename_i h;omega
  ·exact h1
theorem snoc_induction {P:List E→Prop} (h0:P []) (h1:∀ l e,P l→P (l++[e])) (l:List E):P l:=by
 suffices h:∀ m:List E,P m.reverse by simpa using h l.reverse
 intro m
 induction m with
 | nil=>exact h0
 | cons e m ih=>rw [List.reverse_cons];exact h1 _ _ ih
theorem conn_lab (l:List E):∀ v,Conn l v (lab l v):=by
 induction l using snoc_induction with
 | h0=>intro v;exact .refl _
 | h1 l e ih =>
  intro v
  rw [lab_snoc]
  have mono:∀ {a b},Conn l a b→Conn (l++[e]) a b:=fun h=>h.mono (by simp_all)
  have he:Conn (l++[e]) e.1 e.2:=.edge (by simp)
  have h1:=mono (ih v)
  have ha:=mono (ih e.1)
  have hb:=mono (ih e.2)
  unfold lab1
  split
  ·rename_i h
   rcases Nat.le_total (lab l e.1) (lab l e.2) with hle | hle
   ·rw [Nat.max_eq_right hle] at h
    rw [Nat.min_eq_left hle]
    rw [h] at h1
    exact h1.trans (hb.symm.trans (he.symm.trans ha))
   ·rw [Nat.max_eq_left hle] at h
    rw [Nat.min_eq_right hle]
    rw [h] at h1
    exact h1.trans (ha.symm.trans (he.trans hb))
  ·exact h1
theorem lab_edge (l:List E):∀ e∈l,lab l e.1=lab l e.2:=by
 induction l using snoc_induction with
 | h0=>intro e h;cases h
 | h1 l a ih =>
  intro e he
  rw [lab_snoc]
  simp only [List.mem_append,List.mem_singleton] at he
  rcases he with he | rfl
  ·have:=ih e he
   unfold lab1
   rw [this]
  ·unfold lab1
   rcases Nat.le_total (lab l e.1) (lab l e.2) with hle | hle
   ·rw [Nat.max_eq_right hle,Nat.min_eq_left hle,if_pos rfl]
    split <;> omega
   ·rw [Nat.max_eq_left hle,Nat.min_eq_right hle,if_pos rfl]
    split <;> omega
theorem lab_eq_iff (l:List E) (u v:Nat):lab l u=lab l v↔Conn l u v:=by
 constructor
 ·intro h
  have a:=conn_lab l u
  rw [h] at a
  exact a.trans (conn_lab l v).symm
 ·intro h
  induction h with
  | refl=>rfl
  | step _ e ih =>
   rw [ih]
   rcases e with e | e
   ·exact lab_edge l _ e
   ·exact (lab_edge l _ e).symm
theorem lab_lab (l:List E) (v:Nat):lab l (lab l v)=lab l v:=((lab_eq_iff l _ _).2 (conn_lab l v)).symm
theorem lab_least (l:List E) {u v:Nat} (h:Conn l u v):lab l u≤v:=by
 rw [(lab_eq_iff l u v).2 h];exact lab_le l v
theorem lab_unique (l:List E) (c:Nat→Nat) (n:Nat) (h1:∀ v,v < n→Conn l v (c v)) (h2:∀ v,v < n→c v≤v) (h3:∀ e∈l,e.1 < n∧e.2 < n∧c e.1=c e.2):∀ v,v < n→c v=lab l v:=by
 have key:∀ u v,Conn l u v→u < n→v < n∧c u=c v:=by
  intro u v h hu
  induction h with
  | refl=>exact ⟨hu,rfl⟩
  | step _ e ih =>
   obtain ⟨hv,ih⟩:=ih
   rcases e with e | e
   ·obtain ⟨a,b,c⟩:=h3 _ e;exact ⟨b,ih.trans c⟩
   ·obtain ⟨a,b,c⟩:=h3 _ e;exact ⟨a,ih.trans c.symm⟩
 intro v hv
 obtain ⟨hl,e⟩:=key v (lab l v) (conn_lab l v) hv
 have a:=h2 _ hl
 have b:=lab_least l (h1 v hv)
 omega
theorem lab_lt (l:List E) (n v:Nat) (h:v < n):lab l v < n:=Nat.lt_of_le_of_lt (lab_le l v) h
def classes (n:Nat) (l:List E):Nat:=(List.range n).countP fun v=>lab l v == v
theorem countP_split {α} (p q:α→Bool) (l:List α) (h:∀ x∈l,q x=true→p x=true):l.countP p=l.countP q+l.countP (fun x=>p x && !q x):=by
 induction l with
 | nil=>rfl
 | cons a l ih =>
  have:=ih (fun x hx=>h x (by simp [hx]))
  simp only [List.countP_cons,this]
  have ha:=h a (by simp)
  cases hp:p a <;> cases hq:q a <;> simp_all <;> omega
theorem count_one (n a:Nat) (h:a < n) (p:Nat→Bool) (hp:∀ v,v < n→(p v=true↔v=a)):(List.range n).countP p=1:=by
 have:(List.range n).countP p=(List.range n).count a:=by
  unfold List.count
  apply List.countP_congr
  intro x hx
  have:=hp x (by simpa using hx)
  simp [this]
 rw [this]
 have hn:(List.range n).Nodup:=List.nodup_range
 rw [hn.count]
 simp [h]
theorem classes_nil (n:Nat):classes n []=n:=by
 unfold classes
 rw [List.countP_eq_length.2]
 ·simp
 ·intro a _;simp [lab]
theorem classes_same (n:Nat) (l:List E) (e:E) (h:Conn l e.1 e.2):classes n (l++[e])=classes n l:=by
 unfold classes
 apply List.countP_congr
 intro v _
 have:lab (l++[e]) v=lab l v:=by
  rw [lab_snoc];unfold lab1
  have:=(lab_eq_iff l e.1 e.2).2 h
  split <;> omega
 rw [this]
theorem classes_join (n:Nat) (l:List E) (e:E) (h1:e.1 < n) (h2:e.2 < n) (h:¬ Conn l e.1 e.2):classes n (l++[e])+1=classes n l:=by
 have hne:lab l e.1≠lab l e.2:=fun hh=>h ((lab_eq_iff l _ _).1 hh)
 have l1:=lab_lt l n e.1 h1
 have l2:=lab_lt l n e.2 h2
 unfold classes
 rw [countP_split (fun v=>lab l v == v) (fun v=>lab (l++[e]) v == v) (List.range n)]
 ·rw [count_one n (max (lab l e.1) (lab l e.2)) (by omega) (fun x=>lab l x == x && !(lab (l++[e]) x == x))]
  intro v hv
  rw [lab_snoc]
  unfold lab1
  simp only [Bool.and_eq_true,beq_iff_eq,Bool.not_eq_true',beq_eq_false_iff_ne,ne_eq]
  constructor
  ·rintro ⟨a,b⟩
   split at b
   ·omega
   ·exact absurd a b
  ·rintro rfl
   have:lab l (max (lab l e.1) (lab l e.2))=max (lab l e.1) (lab l e.2):=by
    rcases Nat.le_total (lab l e.1) (lab l e.2) with hle | hle
    ·rw [Nat.max_eq_right hle];exact lab_lab l _
    ·rw [Nat.max_eq_left hle];exact lab_lab l _
   refine ⟨this,?_⟩
   rw [if_pos this]
   omega
 ·intro v hv
  rw [lab_snoc]
  unfold lab1
  simp only [beq_iff_eq]
  intro b
  split at b
  ·rename_i hm
   have:lab l v=v:=by
    have hle:=lab_le l v
    have:lab l (min (lab l e.1) (lab l e.2))=min (lab l e.1) (lab l e.2):=by
     rcases Nat.le_total (lab l e.1) (lab l e.2) with hle | hle
     ·rw [Nat.min_eq_left hle];exact lab_lab l _
     ·rw [Nat.min_eq_right hle];exact lab_lab l _
    rw [← b];exact this
   exact this
  ·exact b
def joins (l:List E):List E→Nat
 | []=>0
 | e::m=>(if lab l e.1=lab l e.2 then 0 else 1)+joins (l++[e]) m
theorem classes_joins (n:Nat) (m:List E):∀ l:List E,(∀ e∈m,e.1 < n∧e.2 < n)→classes n (l++m)+joins l m=classes n l:=by
 induction m with
 | nil=>intro l _;simp [joins]
 | cons e m ih =>
  intro l h
  have h':=ih (l++[e]) (fun x hx=>h x (by simp [hx]))
  rw [List.append_assoc,List.singleton_append] at h'
  obtain ⟨h1,h2⟩:=h e (by simp)
  simp only [joins]
  split
  ·rename_i hl
   rw [classes_same n l e ((lab_eq_iff l _ _).1 hl)] at h'
   omega
  ·rename_i hl
   have:=classes_join n l e h1 h2 (fun c=>hl ((lab_eq_iff l _ _).2 c))
   omega
end ArConn
namespace ArForest
open ArTour ArConn
open ArTour.Tok
def turn (l:List Tok) (t:Tok):List Tok:=l.drop (l.idxOf t)++l.take (l.idxOf t)
theorem turn_eq {l t} (h:t∈l):∃ x y,l=x++t::y∧turn l t=t::(y++x)∧t ∉ x:=by
 have hlt:=List.idxOf_lt_length_of_mem h
 refine ⟨l.take (l.idxOf t),l.drop (l.idxOf t+1),?_,?_,?_⟩
 ·have:l.drop (l.idxOf t)=t::l.drop (l.idxOf t+1):=by
   rw [List.drop_eq_getElem_cons hlt,List.getElem_idxOf hlt]
  rw [← this,List.take_append_drop]
 ·unfold turn
  rw [List.drop_eq_getElem_cons hlt,List.getElem_idxOf hlt];rfl
 ·intro hm
  have:=List.mem_take_iff_getElem.1 hm
  obtain ⟨i,hi,e⟩:=this
  have hlt':i < l.idxOf t:=by omega
  have:=List.not_of_lt_findIdx (p:=fun a=>a == t) (xs:=l) (i:=i) (by simpa [List.idxOf] using hlt')
  simp [e] at this
theorem turn_perm (l t):(turn l t).Perm l:=by
 unfold turn
 have:=List.perm_append_comm (l₁:=l.drop (l.idxOf t)) (l₂:=l.take (l.idxOf t))
 rwa [List.take_append_drop] at this
theorem turn_ring {l} (h:Ring l) (t):Ring (turn l t):=by
 unfold turn
 have:Ring (l.take (l.idxOf t)++l.drop (l.idxOf t)):=by rwa [List.take_append_drop]
 exact this.rot
theorem vs_perm {l m:List Tok} (h:l.Perm m):(vs l).Perm (vs m):=h.filterMap _
def least (n:Nat) (l:List Tok):Nat:=(vs l).foldl min n
theorem foldl_min_le (l:List Nat):∀ n,l.foldl min n≤n∧(∀ v∈l,l.foldl min n≤v)∧(l.foldl min n=n∨l.foldl min n∈l):=by
 induction l with
 | nil=>intro n;simp
 | cons a l ih =>
  intro n
  obtain ⟨h1,h2,h3⟩:=ih (min n a)
  simp only [List.foldl_cons,List.mem_cons]
  refine ⟨by omega,?_,?_⟩
  ·rintro v (rfl | hv)
   ·omega
   ·exact h2 v hv
  ·rcases h3 with h3 | h3
   ·rw [h3];omega
   ·exact .inr (.inr h3)
theorem least_mem {n l} (hn:vs l≠[]) (h:∀ v∈vs l,v < n):least n l∈vs l∧∀ v∈vs l,least n l≤v:=by
 obtain ⟨h1,h2,h3⟩:=foldl_min_le (vs l) n
 refine ⟨?_,h2⟩
 rcases h3 with h3 | h3
 ·obtain ⟨v,hv⟩:=List.exists_mem_of_ne_nil _ hn
  have:=h2 v hv;have:=h v hv
  unfold least at *;omega
 ·exact h3
structure Good (n:Nat) (l:List Tok):Prop where
 ring:Ring l
 nodup:(vs l).Nodup
 lt:∀ v∈vs l,v < n
 head:∃ y,l=V (least n l)::y
theorem Ring.vs_ne {l} (h:Ring l):vs l≠[]:=by
 obtain ⟨r,h⟩:=h
 exact List.ne_nil_of_mem (h.own rfl)
theorem Good.least_le {n l} (h:Good n l):∀ v∈vs l,least n l≤v:=(least_mem (Ring.vs_ne h.ring) h.lt).2
theorem Good.least_mem {n l} (h:Good n l):least n l∈vs l:=(ArForest.least_mem (Ring.vs_ne h.ring) h.lt).1
def plain (n:Nat) (l:List Tok):List Tok:=turn l (V (least n l))
theorem least_perm {n l m} (h:(vs l).Perm (vs m)) (hl:∀ v∈vs l,v < n) (hn:vs l≠[]):least n l=least n m:=by
 have hm:∀ v∈vs m,v < n:=fun v hv=>hl v (h.mem_iff.2 hv)
 have hn':vs m≠[]:=fun e=>hn (by rw [e] at h;exact h.eq_nil)
 obtain ⟨a1,a2⟩:=ArForest.least_mem hn hl
 obtain ⟨b1,b2⟩:=ArForest.least_mem hn' hm
 have:=a2 _ (h.mem_iff.2 b1)
 have:=b2 _ (h.mem_iff.1 a1)
 omega
theorem plain_good {n l} (h:Ring l) (hd:(vs l).Nodup) (hl:∀ v∈vs l,v < n):Good n (plain n l):=by
 have hp:(vs (plain n l)).Perm (vs l):=vs_perm (turn_perm _ _)
 have hlt:∀ v∈vs (plain n l),v < n:=fun v hv=>hl v (hp.mem_iff.1 hv)
 have hm:=(ArForest.least_mem (Ring.vs_ne h) hl).1
 obtain ⟨x,y,_,e,_⟩:=turn_eq (mem_vs.1 hm)
 refine ⟨turn_ring h _,hp.nodup_iff.2 hd,hlt,y++x,?_⟩
 rw [← least_perm hp.symm hl (Ring.vs_ne h)]
 exact e
def joined (u v:Nat) (a b:List Tok):List Tok :=
 V u::A u v::((turn b (V v))++A v u::(turn a (V u)).tail)
theorem joined_ring {a b u v} (ha:Ring a) (hb:Ring b) (hu:V u∈a) (hv:V v∈b):Ring (joined u v a b):=by
 obtain ⟨x,y,_,ea,_⟩:=turn_eq hu
 obtain ⟨x',y',_,eb,_⟩:=turn_eq hv
 have ra:=turn_ring ha (V u)
 have rb:=turn_ring hb (V v)
 rw [ea] at ra
 obtain ⟨r,ra⟩:=ra
 obtain rfl:=ra.head_V
 obtain ⟨q,rb'⟩:=rb
 rw [eb] at rb'
 obtain rfl:=rb'.head_V
 have:=ra.insert (x:=[V r]) (y:=y++x) rfl rb'
 refine ⟨r,?_⟩
 unfold joined
 rw [ea,eb]
 simpa [Tok.stand] using this
theorem joined_vs {a b u v} (hu:V u∈a):(vs (joined u v a b)).Perm (vs a++vs b):=by
 obtain ⟨x,y,_,ea,_⟩:=turn_eq hu
 have pa:=vs_perm (turn_perm a (V u))
 have pb:=vs_perm (turn_perm b (V v))
 unfold joined
 rw [ea] at pa ⊢
 simp only [vs_V,vs_A,vs_append,List.tail_cons] at pa ⊢
 have h1:(u::(vs (turn b (V v))++(vs y++vs x))).Perm (vs (turn b (V v))++(u::(vs y++vs x))):=List.perm_middle.symm
 exact h1.trans ((pb.append pa).trans List.perm_append_comm)
structure Wf (n:Nat) (f:List (List Tok)):Prop where
 good:∀ r∈f,Good n r
 sorted:f.Pairwise fun a b=>least n a < least n b
 all:(f.flatMap vs).Perm (List.range n)
def place (f:List (List Tok)) (v:Nat):Nat:=f.findIdx fun r=>r.contains (V v)
def put (n:Nat) (r:List Tok):List (List Tok)→List (List Tok)
 | []=>[r]
 | a::f=>if least n a < least n r then a::put n r f else r::a::f
theorem put_perm (n r f):(put n r f).Perm (r::f):=by
 induction f with
 | nil=>exact .refl _
 | cons a f ih =>
  unfold put
  split
  ·exact (ih.cons a).trans (.swap ..)
  ·exact .refl _
theorem put_sorted {n r f} (h:f.Pairwise fun a b=>least n a < least n b) (hr:∀ a∈f,least n a≠least n r):(put n r f).Pairwise fun a b=>least n a < least n b:=by
 induction f with
 | nil=>simp [put]
 | cons a f ih =>
  obtain ⟨h1,h2⟩:=List.pairwise_cons.1 h
  have ha:=hr a (by simp)
  unfold put
  split
  ·rename_i hlt
   refine List.pairwise_cons.2 ⟨fun b hb=>?_,ih h2 (fun b hb=>hr b (by simp [hb]))⟩
   rcases List.mem_cons.1 ((put_perm n r f).mem_iff.1 hb) with rfl | hb
   ·exact hlt
   ·exact h1 b hb
  ·refine List.pairwise_cons.2 ⟨fun b hb=>?_,h⟩
   rcases List.mem_cons.1 hb with rfl | hb
   ·omega
   ·have:=h1 b hb;omega
def without (f:List (List Tok)) (i j:Nat):List (List Tok):=(f.eraseIdx (max i j)).eraseIdx (min i j)
def link (n:Nat) (f:List (List Tok)) (u v:Nat):List (List Tok) :=
 let i:=place f u
 let j:=place f v
 if i=j then f else put n (plain n (joined u v (f.getD i []) (f.getD j []))) (without f i j)
theorem place_lt {n f v} (h:Wf n f) (hv:v < n):place f v < f.length∧V v∈f.getD (place f v) []:=by
 have hm:v∈f.flatMap vs:=h.all.mem_iff.2 (by simpa using hv)
 obtain ⟨r,hr,hvr⟩:=List.mem_flatMap.1 hm
 have hlt:place f v < f.length:=List.findIdx_lt_length_of_exists ⟨r,hr,by simpa using mem_vs.1 hvr⟩
 refine ⟨hlt,?_⟩
 have:=List.findIdx_getElem (w:=hlt)
 simp only [List.contains_iff_mem] at this
 rwa [List.getD_eq_getElem?_getD,List.getElem?_eq_getElem hlt,Option.getD_some]
theorem erase_perm {α} (f:List α) (i:Nat) (d:α) (h:i < f.length):f.Perm (f.getD i d::f.eraseIdx i):=by
 induction f generalizing i with
 | nil=>simp at h
 | cons a f ih =>
  cases i with
  | zero=>simp
  | succ i =>
   have:=ih i (by simpa using h)
   simp only [List.getD_cons_succ,List.eraseIdx_cons_succ]
   exact (this.cons a).trans (.swap ..)
theorem without_perm (f:List (List Tok)) (i j:Nat) (hi:i < f.length) (hj:j < f.length) (hne:i≠j):f.Perm (f.getD i []::f.getD j []::without f i j):=by
 have key:∀ a b,a < b→b < f.length→f.Perm (f.getD a []::f.getD b []::without f a b):=by
  intro a b hab hb
  have h1:=erase_perm f b [] hb
  have hl:a < (f.eraseIdx b).length:=by rw [List.length_eraseIdx];split <;> omega
  have h2:=erase_perm (f.eraseIdx b) a [] hl
  have h3:(f.eraseIdx b).getD a []=f.getD a []:=by
   rw [List.getD_eq_getElem?_getD,List.getElem?_eraseIdx,if_pos hab,List.getD_eq_getElem?_getD]
  rw [h3] at h2
  have h4:without f a b=(f.eraseIdx b).eraseIdx a:=by unfold without;rw [Nat.max_eq_right (by omega),Nat.min_eq_left (by omega)]
  rw [h4]
  exact h1.trans ((h2.cons _).trans (.swap ..))
 rcases Nat.lt_or_gt_of_ne hne with h | h
 ·exact key i j h hj
 ·have:=key j i h hi
  have e:without f j i=without f i j:=by unfold without;rw [Nat.max_comm,Nat.min_comm]
  rw [e] at this
  exact this.trans (.swap ..)
theorem Wf.uniq {n f} (h:Wf n f) {i j v} (hi:i < f.length) (hj:j < f.length) (vi:V v∈f.getD i []) (vj:V v∈f.getD j []):i=j:=by
 have hn:(f.flatMap vs).Nodup:=h.all.nodup_iff.2 List.nodup_range
 refine Classical.byContradiction fun hne=>?_
 have hp:=without_perm f i j hi hj hne
 have hp2:=(hp.flatMap_right vs).nodup_iff.1 hn
 simp only [List.flatMap_cons] at hp2
 have:=(List.nodup_append.1 hp2).2.2 v (mem_vs.2 vi) v (List.mem_append_left _ (mem_vs.2 vj))
 exact this rfl
theorem put_mem {n r f a}:a∈put n r f↔a=r∨a∈f:=by rw [(put_perm n r f).mem_iff,List.mem_cons]
theorem link_wf {n f u v} (h:Wf n f) (hu:u < n) (hv:v < n):Wf n (link n f u v):=by
 obtain ⟨hi,hui⟩:=place_lt h hu
 obtain ⟨hj,hvj⟩:=place_lt h hv
 unfold link
 simp only []
 split
 ·exact h
 ·rename_i hne
  have hp:=without_perm f _ _ hi hj hne
  generalize ea:f.getD (place f u) []=a at hui hp ⊢
  generalize eb:f.getD (place f v) []=b at hvj hp ⊢
  generalize ef:without f (place f u) (place f v)=g at hp ⊢
  have ga:Good n a:=h.good _ (hp.mem_iff.2 (by simp))
  have gb:Good n b:=h.good _ (hp.mem_iff.2 (by simp))
  have gg:∀ r∈g,Good n r:=fun r hr=>h.good _ (hp.mem_iff.2 (by simp [hr]))
  have hall:(vs a++(vs b++g.flatMap vs)).Perm (List.range n):=by
   have:=(hp.flatMap_right vs).symm.trans h.all
   simpa [List.flatMap_cons] using this
  have hnd:=hall.nodup_iff.2 List.nodup_range
  have hjv:(vs (joined u v a b)).Perm (vs a++vs b):=joined_vs hui
  have hjr:=joined_ring ga.ring gb.ring hui hvj
  have hjn:(vs (joined u v a b)).Nodup:=by
   refine hjv.nodup_iff.2 ?_
   rw [← List.append_assoc] at hnd
   exact (List.nodup_append.1 hnd).1
  have hjl:∀ x∈vs (joined u v a b),x < n:=by
   intro x hx
   rcases List.mem_append.1 (hjv.mem_iff.1 hx) with hx | hx
   ·exact ga.lt x hx
   ·exact gb.lt x hx
  have gp:=plain_good hjr hjn hjl
  have hpv:(vs (plain n (joined u v a b))).Perm (vs a++vs b):=(vs_perm (turn_perm _ _)).trans hjv
  have hnew:(vs (plain n (joined u v a b))++g.flatMap vs).Perm (List.range n) :=
   (hpv.append_right _).trans (by rw [List.append_assoc];exact hall)
  refine ⟨?_,?_,?_⟩
  ·intro r hr
   rcases put_mem.1 hr with rfl | hr
   ·exact gp
   ·exact gg r hr
  ·refine put_sorted ?_ ?_
   ·rw [← ef]
    unfold without
    exact (h.sorted.sublist (List.eraseIdx_sublist ..)).sublist (List.eraseIdx_sublist ..)
   ·intro r hr e
    have h1:=gp.least_mem
    have h2:=(gg r hr).least_mem
    rw [e] at h2
    have hnn:=hnew.nodup_iff.2 List.nodup_range
    exact (List.nodup_append.1 hnn).2.2 _ h1 _ (List.mem_flatMap.2 ⟨r,hr,h2⟩) rfl
  ·have:=(put_perm n (plain n (joined u v a b)) g).flatMap_right vs
   refine this.trans ?_
   simpa [List.flatMap_cons] using hnew
def together (f:List (List Tok)) (x y:Nat):Prop:=∃ r∈f,V x∈r∧V y∈r
theorem together_place {n f x y} (h:Wf n f) (hx:x < n) (hy:y < n):together f x y↔place f x=place f y:=by
 obtain ⟨ix,mx⟩:=place_lt h hx
 obtain ⟨iy,my⟩:=place_lt h hy
 constructor
 ·rintro ⟨r,hr,h1,h2⟩
  obtain ⟨k,hk,rfl⟩:=List.mem_iff_getElem.1 hr
  have e:f.getD k []=f[k]:=by rw [List.getD_eq_getElem?_getD,List.getElem?_eq_getElem hk,Option.getD_some]
  rw [← e] at h1 h2
  rw [← h.uniq hk ix h1 mx,← h.uniq hk iy h2 my]
 ·intro e
  rw [e] at mx
  refine ⟨_,?_,mx,my⟩
  rw [List.getD_eq_getElem?_getD,List.getElem?_eq_getElem iy,Option.getD_some]
  exact List.getElem_mem iy
theorem lab_snoc_iff (l : List E) (u v x y : Nat) : lab (l ++ [(u, v)]) x = lab (l ++ [(u, v)]) y ↔
    lab l x=lab l y∨((lab l x=lab l u∨lab l x=lab l v)∧(lab l y=lab l u∨lab l y=lab l v)):=by
 rw [lab_snoc]
 unfold lab1
 simp only []
 split <;> split <;> omega
structure Tells (n:Nat) (l:List E) (f:List (List Tok)):Prop where
 wf:Wf n f
 tells:∀ x y,x < n→y < n→(place f x=place f y↔lab l x=lab l y)
 len:f.length+joins [] l=n
theorem joins_snoc (l0 l:List E) (e:E):joins l0 (l++[e])=joins l0 l+(if lab (l0++l) e.1=lab (l0++l) e.2 then 0 else 1):=by
 induction l generalizing l0 with
 | nil=>simp [joins]
 | cons a l ih =>
  simp only [List.cons_append,joins,ih,List.append_assoc,List.nil_append]
  omega
theorem Tells.link {n l f u v} (h:Tells n l f) (hu:u < n) (hv:v < n):Tells n (l++[(u,v)]) (link n f u v):=by
 have hw:=link_wf h.wf hu hv
 refine ⟨hw,?_,?_⟩
 ·intro x y hx hy
  rw [← together_place hw hx hy,lab_snoc_iff,← h.tells x y hx hy,← h.tells x u hx hu,← h.tells x v hx hv,← h.tells y u hy hu,← h.tells y v hy hv]
  rw [← together_place h.wf hx hy,← together_place h.wf hx hu,← together_place h.wf hx hv,← together_place h.wf hy hu,← together_place h.wf hy hv]
  obtain ⟨hi,hui⟩:=place_lt h.wf hu
  obtain ⟨hj,hvj⟩:=place_lt h.wf hv
  unfold ArForest.link
  simp only []
  split
  ·rename_i e
   rw [← together_place h.wf hu hv] at e
   have tr:∀ {a b c},a < n→b < n→c < n→together f a b→together f b c→together f a c:=by
    intro a b c ha hb hc h1 h2
    rw [together_place h.wf ha hc]
    rw [together_place h.wf ha hb] at h1
    rw [together_place h.wf hb hc] at h2
    exact h1.trans h2
   have sy:∀ {a b},together f a b→together f b a:=fun ⟨r,hr,a,b⟩=>⟨r,hr,b,a⟩
   constructor
   ·exact .inl
   ·rintro (h | ⟨h1 | h1,h2 | h2⟩)
    ·exact h
    ·exact tr hx hu hy h1 (sy h2)
    ·exact tr hx hu hy h1 (tr hu hv hy e (sy h2))
    ·exact tr hx hv hy h1 (tr hv hu hy (sy e) (sy h2))
    ·exact tr hx hv hy h1 (sy h2)
  ·rename_i hne
   have hp:=without_perm f _ _ hi hj hne
   generalize ea:f.getD (place f u) []=a at hui hp ⊢
   generalize eb:f.getD (place f v) []=b at hvj hp ⊢
   generalize ef:without f (place f u) (place f v)=g at hp ⊢
   have hjv:∀ z,V z∈plain n (joined u v a b)↔V z∈a∨V z∈b:=by
    intro z
    rw [← mem_vs,← mem_vs,← mem_vs,← List.mem_append]
    exact ((vs_perm (turn_perm _ _)).trans (joined_vs hui)).mem_iff
   have tf:∀ s t,together f s t↔(V s∈a∧V t∈a)∨(V s∈b∧V t∈b)∨together g s t:=by
    intro s t
    unfold together
    constructor
    ·rintro ⟨r,hr,h1,h2⟩
     rcases List.mem_cons.1 (hp.mem_iff.1 hr) with rfl | hr
     ·exact .inl ⟨h1,h2⟩
     ·rcases List.mem_cons.1 hr with rfl | hr
      ·exact .inr (.inl ⟨h1,h2⟩)
      ·exact .inr (.inr ⟨r,hr,h1,h2⟩)
    ·rintro (⟨h1,h2⟩ | ⟨h1,h2⟩ | ⟨r,hr,h1,h2⟩)
     ·exact ⟨a,hp.mem_iff.2 (by simp),h1,h2⟩
     ·exact ⟨b,hp.mem_iff.2 (by simp),h1,h2⟩
     ·exact ⟨r,hp.mem_iff.2 (by simp [hr]),h1,h2⟩
   have tn:∀ s t,together (put n (plain n (joined u v a b)) g) s t↔((V s∈a∨V s∈b)∧(V t∈a∨V t∈b))∨together g s t:=by
    intro s t
    unfold together
    constructor
    ·rintro ⟨r,hr,h1,h2⟩
     rcases put_mem.1 hr with rfl | hr
     ·exact .inl ⟨(hjv _).1 h1,(hjv _).1 h2⟩
     ·exact .inr ⟨r,hr,h1,h2⟩
    ·rintro (⟨h1,h2⟩ | ⟨r,hr,h1,h2⟩)
     ·exact ⟨_,put_mem.2 (.inl rfl),(hjv _).2 h1,(hjv _).2 h2⟩
     ·exact ⟨r,put_mem.2 (.inr hr),h1,h2⟩
   have iu:∀ s,together f s u↔V s∈a:=by
    intro s
    constructor
    ·rintro ⟨r,hr,h1,h2⟩
     obtain ⟨k,hk,e⟩:=List.mem_iff_getElem.1 hr
     have e':f.getD k []=r:=by rw [List.getD_eq_getElem?_getD,List.getElem?_eq_getElem hk,Option.getD_some,e]
     have:=h.wf.uniq hk hi (e' ▸ h2) (ea ▸ hui)
     subst this
     rw [← ea,e'];exact h1
    ·intro h1;exact ⟨a,hp.mem_iff.2 (by simp),h1,hui⟩
   have iv:∀ s,together f s v↔V s∈b:=by
    intro s
    constructor
    ·rintro ⟨r,hr,h1,h2⟩
     obtain ⟨k,hk,e⟩:=List.mem_iff_getElem.1 hr
     have e':f.getD k []=r:=by rw [List.getD_eq_getElem?_getD,List.getElem?_eq_getElem hk,Option.getD_some,e]
     have:=h.wf.uniq hk hj (e' ▸ h2) (eb ▸ hvj)
     subst this
     rw [← eb,e'];exact h1
    ·intro h1;exact ⟨b,hp.mem_iff.2 (by simp),h1,hvj⟩
   rw [tn,tf,iu,iv,iu,iv]
   constructor
   ·rintro (h | h)
    ·exact .inr h
    ·exact .inl (.inr (.inr h))
   ·rintro ((h | h | h) | h)
    ·exact .inl ⟨.inl h.1,.inl h.2⟩
    ·exact .inl ⟨.inr h.1,.inr h.2⟩
    ·exact .inr h
    ·exact .inl h
 ·rw [joins_snoc]
  have hl:=h.len
  obtain ⟨hi,_⟩:=place_lt h.wf hu
  obtain ⟨hj,_⟩:=place_lt h.wf hv
  have ht:=h.tells u v hu hv
  unfold ArForest.link
  simp only [List.nil_append]
  split
  ·rename_i e
   rw [if_pos (ht.1 e)];omega
  ·rename_i hne
   rw [if_neg (fun e=>hne (ht.2 e))]
   have h1:=(put_perm n (plain n (joined u v (f.getD (place f u) []) (f.getD (place f v) []))) (without f (place f u) (place f v))).length_eq
   have h2:=(without_perm f _ _ hi hj hne).length_eq
   simp only [List.length_cons] at h1 h2
   omega
def alone (n:Nat):List (List Tok):=(List.range n).map fun v=>[V v]
theorem alone_tells (n:Nat):Tells n [] (alone n):=by
 have hp:∀ v,v < n→place (alone n) v=v:=by
  intro v hv
  unfold place alone
  rw [List.findIdx_map]
  rw [List.findIdx_eq (by simpa using hv)]
  simp
  omega
 refine ⟨⟨?_,?_,?_⟩,?_,?_⟩
 ·intro r hr
  obtain ⟨v,hv,rfl⟩:=List.mem_map.1 hr
  have hv:v < n:=by simpa using hv
  exact ⟨⟨v,.tok _ _ (.nil v)⟩,by simp,by simpa using hv,[],by simp [least];omega⟩
 ·unfold alone
  rw [List.pairwise_map]
  refine List.Pairwise.imp_of_mem ?_ (List.pairwise_lt_range (n:=n))
  intro a b ha hb hab
  have ha:a < n:=by simpa using ha
  have hb:b < n:=by simpa using hb
  simp [least];omega
 ·unfold alone
  rw [List.flatMap_map]
  have:((List.range n).flatMap fun a=>vs [V a])=List.range n:=by simp [List.flatMap_singleton']
  rw [this]
 ·intro x y hx hy
  rw [hp x hx,hp y hy];simp [lab]
 ·simp [alone,joins]
def of (n:Nat) (l:List E):List (List Tok):=l.foldl (fun f e=>link n f e.1 e.2) (alone n)
theorem of_snoc (n l e):of n (l++[e])=link n (of n l) e.1 e.2:=by simp [of,List.foldl_append]
theorem of_tells (n:Nat) (l:List E) (h:∀ e∈l,e.1 < n∧e.2 < n):Tells n l (of n l):=by
 induction l using snoc_induction with
 | h0=>exact alone_tells n
 | h1 l e ih =>
  rw [of_snoc]
  obtain ⟨h1,h2⟩:=h e (by simp)
  exact (ih fun x hx=>h x (by simp [hx])).link h1 h2
end ArForest
namespace ArWalk
open ArTour ArForest
open ArTour.Tok
def wstep (st:List Nat × List Nat × List Nat) (t:Tok):Option (List Nat × List Nat × List Nat) :=
 match t with
 | V u=>if st.1.head? = some u then some (st.1,st.2.1,u::st.2.2) else none
 | A u v=>if st.1.head?≠some u then none else if st.1.tail.head? = some v then some (st.1.tail,st.2) else if v∈st.2.1 then none else some (v::st.1,v::st.2.1,st.2.2)
theorem Ex.arc_ne {b r s} (h:Ex b r s) (hn:(vs s).Nodup) (hr:b=false→r ∉ vs s):∀ {u v},A u v∈s→u≠v:=by
 induction h with
 | nil=>intro u v h;cases h
 | tok r s hs ih =>
  intro u v h
  simp only [vs_V,List.nodup_cons] at hn
  simp only [List.mem_cons,reduceCtorEq,false_or] at h
  exact ih hn.2 (fun _=>hn.1) h
 | go b r c s1 s2 h1 h2 ih1 ih2 =>
  intro u v h
  simp only [vs_A,vs_append] at hn hr
  obtain ⟨n1,n2,n12⟩:=List.nodup_append.1 hn
  have hc:=h1.own rfl
  have rc:r≠c:=by
   rintro rfl
   cases b with
   | true=>exact n12 r hc r (h2.own rfl) rfl
   | false=>exact hr rfl (by simp [hc])
  simp only [List.mem_cons,List.mem_append,Tok.A.injEq] at h
  rcases h with ⟨rfl,rfl⟩ | h | ⟨rfl,rfl⟩ | h
  ·exact rc
  ·exact ih1 n1 (by simp) h
  ·exact rc.symm
  ·exact ih2 n2 (fun hb hm=>hr hb (by simp [hm])) h
theorem walk_ex {b r s} (h : Ex b r s) : ∀ rest came met, (vs s).Nodup → (b = false → r ∉ vs s) → (∀ p ∈ rest.head?, p ∉ vs s) → r ∈ came → (∀ v ∈ vs s, v ≠ r → v ∉ came) →
    ∃ came',s.foldlM wstep (r::rest,came,met)=some (r::rest,came',(vs s).reverse++met)∧came'.Perm ((vs s).filter (·≠r)++came):=by
 induction h with
 | nil=>intro rest came met _ _ _ _ _;exact ⟨came,by simp,by simp⟩
 | tok r s hs ih =>
  intro rest came met hn hr hp hc hv
  simp only [vs_V,List.nodup_cons] at hn
  obtain ⟨c',e,p⟩:=ih rest came (r::met) hn.2 (fun _=>hn.1) (fun q hq hm=>hp q hq (by simp [hm])) hc (fun v hm=>hv v (by simp [hm]))
  refine ⟨c',?_,?_⟩
  ·simp [List.foldlM_cons,wstep,e]
  ·simpa using p
 | go b r c s1 s2 h1 h2 ih1 ih2 =>
  intro rest came met hn hr hp hcm hv
  simp only [vs_A,vs_append] at hn hr hp hv
  obtain ⟨n1,n2,n12⟩:=List.nodup_append.1 hn
  have hc:=h1.own rfl
  have rc:r≠c:=by
   rintro rfl
   cases b with
   | true=>exact n12 r hc r (h2.own rfl) rfl
   | false=>exact hr rfl (by simp [hc])
  have r1:r ∉ vs s1:=by
   intro hm
   cases b with
   | true=>exact n12 r hm r (h2.own rfl) rfl
   | false=>exact hr rfl (by simp [hm])
  have c2:c ∉ vs s2:=fun hm=>n12 c hc c hm rfl
  have cc:c ∉ came:=hv c (by simp [hc]) rc.symm
  obtain ⟨a',ea,pa⟩:=ih1 (r::rest) (c::came) met n1 (by simp) (by simpa using r1) (by simp) (by
   intro v hm hne
   have hvr:v≠r:=by rintro rfl;exact r1 hm
   simp only [List.mem_cons,not_or]
   exact ⟨hne,hv v (by simp [hm]) hvr⟩)
  have hma:∀ v,v∈a'↔(v∈vs s1)∨v∈came:=by
   intro v
   rw [pa.mem_iff]
   simp only [List.mem_append,List.mem_filter,List.mem_cons,decide_not,Bool.not_eq_true',decide_eq_false_iff_not]
   constructor
   ·rintro (h | rfl | h)
    ·exact .inl h.1
    ·exact .inl hc
    ·exact .inr h
   ·rintro (h | h)
    ·by_cases e:v=c
     ·exact .inr (.inl e)
     ·exact .inl ⟨h,e⟩
    ·exact .inr (.inr h)
  obtain ⟨b',eb,pb⟩:=ih2 rest a' ((vs s1).reverse++met) n2 (fun hb hm=>hr hb (by simp [hm])) (fun q hq hm=>hp q hq (by simp [hm])) ((hma r).2 (.inr hcm)) (by
   intro v hm hne
   rw [hma]
   rintro (h | h)
   ·exact n12 v h v hm rfl
   ·exact hv v (by simp [hm]) hne h)
  refine ⟨b',?_,?_⟩
  ·have hpar:rest.head?≠some c:=by
    intro e
    exact hp c (by simp [e]) (by simp [hc])
   simp only [List.foldlM_cons,List.foldlM_append]
   have e1:wstep (r::rest,came,met) (A r c)=some (c::r::rest,c::came,met):=by simp [wstep,hpar,cc]
   rw [e1]
   simp only [Option.bind_eq_bind,Option.bind_some,ea]
   have e2:wstep (c::r::rest,a',(vs s1).reverse++met) (A c r)=some (r::rest,a',(vs s1).reverse++met):=by simp [wstep]
   rw [e2]
   simp only [Option.bind_some,eb]
   simp
  ·refine pb.trans ?_
   rw [vs_A,vs_append,vs_A,List.filter_append,List.append_assoc]
   have f1:(vs s1).filter (·≠r)=vs s1:=by
    rw [List.filter_eq_self]
    intro v hm
    have:v≠r:=by rintro rfl;exact r1 hm
    simpa using this
   rw [f1]
   have pc:a'.Perm (vs s1++came):=by
    refine pa.trans ?_
    have hsplit:((vs s1).filter (·≠c)++[c]).Perm (vs s1):=by
     have h1:=List.perm_append_comm (l₁:=(vs s1).filter (·≠c)) (l₂:=[c])
     have h2:=List.perm_cons_erase hc
     have h3:(vs s1).erase c=(vs s1).filter (·≠c):=by rw [n1.erase_eq_filter];congr 1;funext v;simp [bne];rfl
     rw [h3] at h2
     exact h1.trans h2.symm
    have:=hsplit.append_right came
    simpa using this
   have:=pc.append_left ((vs s2).filter (·≠r))
   refine this.trans ?_
   rw [← List.append_assoc,← List.append_assoc]
   exact List.perm_append_comm.append_right came
theorem walk_good {n l} (h:Good n l):∃ came met,l.foldlM wstep ([least n l],[least n l],[])=some ([least n l],came,met)∧came.Nodup∧met.Nodup∧(∀ v,v∈came↔v∈vs l)∧(∀ v,v∈met↔v∈vs l):=by
 obtain ⟨r,hr⟩:=h.ring
 obtain ⟨y,e⟩:=h.head
 have e':r=least n l:=by rw [e] at hr;exact hr.head_V
 subst e'
 obtain ⟨c',e1,p⟩:=walk_ex hr [] [least n l] [] h.nodup (by simp) (by simp) (by simp) (by simp)
 have hm:=h.least_mem
 refine ⟨c',_,e1,?_,?_,?_,?_⟩
 ·refine p.nodup_iff.2 (List.nodup_append.2 ⟨h.nodup.filter _,by simp,?_⟩)
  intro a ha b hb e
  simp at ha hb
  exact ha.2 (e.trans hb)
 ·simpa using (List.reverse_perm _).nodup_iff.2 h.nodup
 ·intro v
  rw [p.mem_iff]
  simp only [List.mem_append,List.mem_filter,List.mem_singleton,decide_not,Bool.not_eq_true',decide_eq_false_iff_not]
  constructor
  ·rintro (h | rfl)
   ·exact h.1
   ·exact hm
  ·intro h
   by_cases e:v=least n l
   ·exact .inr e
   ·exact .inl ⟨h,e⟩
 ·intro v;simp
end ArWalk
namespace ArLeaf
open ArTour ArForest
open ArTour.Tok
def rot (i:Nat) (l:List Tok):List Tok:=l.drop i++l.take i
theorem rot_ring {l} (h:Ring l) (i):Ring (rot i l):=by
 unfold rot
 have:Ring (l.take i++l.drop i):=by rwa [List.take_append_drop]
 exact this.rot
theorem rot_perm (i l):(rot i l).Perm l:=by
 have:=List.perm_append_comm (l₁:=l.drop i) (l₂:=l.take i)
 rwa [List.take_append_drop] at this
theorem rot_length (i l):(rot i l).length=l.length:=(rot_perm i l).length_eq
theorem Ring.len {l} (h:Ring l):l.length+2=3 * (vs l).length:=by
 obtain ⟨r,h⟩:=h
 exact h.len
theorem ring_take {l i u v rest} (h:Ring l) (hn:(vs l).Nodup) (e:rot i l=A u v::V v::A v u::rest):Ring rest∧(vs rest).Nodup∧rest.length+3=l.length∧(v::vs rest).Perm (vs l):=by
 have hr:=rot_ring h i
 have hp:=vs_perm (rot_perm i l)
 have hl:=rot_length i l
 have hnr:=hp.nodup_iff.2 hn
 rw [e] at hr hp hl hnr
 obtain ⟨r,hr⟩:=hr
 obtain rfl:=hr.head_A
 refine ⟨⟨r,hr.unleaf hnr rfl⟩,?_,by simpa using hl,by simpa using hp⟩
 simp only [vs_A,vs_V,List.nodup_cons] at hnr
 exact hnr.2
theorem ring_leaf {l} (h:Ring l) (hl:l.length≠1):∃ i u v rest,i < l.length∧rot i l=A u v::V v::A v u::rest∧(∃ t,rest.getLast? = some t∧t.stand=u):=by
 obtain ⟨r,h⟩:=h
 by_cases ha:∃ u v,A u v∈l
 ·obtain ⟨x,y,c,e⟩:=h.leaf ha
  refine ⟨x.length,pos r x,c,y++x,by rw [e];simp,?_,?_⟩
  ·unfold rot;rw [e];simp
  ·rcases List.eq_nil_or_concat x with rfl | ⟨x',t,rfl⟩
   ·simp only [pos_nil,List.append_nil,List.nil_append] at e ⊢
    rcases List.eq_nil_or_concat y with rfl | ⟨y',t,rfl⟩
    ·have:=h.own rfl
     have hpe:=h.pos_end
     rw [e] at this hpe
     simp [Tok.stand] at this hpe
     exfalso
     subst this
     have hh:Ex true r l:=h
     rw [e] at hh
     have:=hh.len
     simp at this
    ·refine ⟨t,by simp,?_⟩
     have hpe:=h.pos_end
     rw [e] at hpe
     simpa [pos_append,Tok.stand,List.concat_eq_append] using hpe
   ·refine ⟨t,by simp,?_⟩
    simp [pos_append]
 ·exfalso
  cases h with
  | go=>exact ha ⟨_,_,List.mem_cons_self⟩
  | tok r s hs =>
   cases hs with
   | nil=>simp at hl
   | go=>exact ha ⟨_,_,List.mem_cons_of_mem _ List.mem_cons_self⟩
end ArLeaf
namespace Go.Ar.Mm
open ArTour ArForest ArWalk
open ArTour.Tok
def tk (n:Nat):Tok→Int
 | V v=>v
 | A u v=>((n+u * n+v:Nat):Int)
def okT (n:Nat):Tok→Prop
 | V v=>v < n
 | A u v=>u < n∧v < n∧u≠v
theorem arc_lt {n u v:Nat} (hn:n≤64) (hu:u < n) (hv:v < n):n≤n+u * n+v∧n+u * n+v < n+n * n∧n * n≤4096:=by
 have h1:u * n+n≤n * n:=by
  have:(u+1) * n≤n * n:=Nat.mul_le_mul_right _ hu
  rw [Nat.add_mul] at this;omega
 have h2:n * n≤64 * 64:=Nat.mul_le_mul hn hn
 omega
theorem tk_inj {n:Nat}{s t:Tok} (hs:okT n s) (ht:okT n t) (h:tk n s=tk n t):s=t:=by
 have key:∀ u v u' v',u < n→v < n→u' < n→v' < n→n+u * n+v=n+u' * n+v'→u=u'∧v=v':=by
  intro u v u' v' hu hv hu' hv' e
  have e2:u * n+v=u' * n+v':=by omega
  have d1:(u * n+v) / n=u:=by rw [Nat.mul_comm,Nat.mul_add_div (by omega),Nat.div_eq_of_lt hv];omega
  have d2:(u' * n+v') / n=u':=by rw [Nat.mul_comm,Nat.mul_add_div (by omega),Nat.div_eq_of_lt hv'];omega
  rw [e2,d2] at d1
  subst d1
  exact ⟨rfl,by omega⟩
 cases s with
 | V v =>
  cases t with
  | V w=>simp only [tk] at h;rw [show v=w by omega]
  | A u w=>simp only [tk,okT] at *;exfalso;omega
 | A u v =>
  cases t with
  | V w=>simp only [tk,okT] at *;exfalso;omega
  | A u' v' =>
   simp only [tk,okT] at *
   obtain ⟨rfl,rfl⟩:=key u v u' v' hs.1 hs.2.1 ht.1 ht.2.1 (by omega)
   rfl
theorem tk_rng {n:Nat}{t:Tok} (hn:n≤64) (ht:okT n t):0≤tk n t∧tk n t≤10000:=by
 cases t with
 | V v=>simp only [tk,okT] at *;omega
 | A u v =>
  simp only [tk,okT] at *
  have:=arc_lt hn ht.1 ht.2.1
  omega
theorem tk_lt {n:Nat}{t:Tok} (ht:okT n t):tk n t < (n:Int)↔∃ v,t=V v:=by
 cases t with
 | V v=>simp only [tk,okT] at *;exact ⟨fun _=>⟨_,rfl⟩,fun _=>by omega⟩
 | A u v=>simp only [tk,okT] at *;exact ⟨fun h=>by omega,fun ⟨_,h⟩=>by cases h⟩
theorem good_ok {n:Nat}{l:List Tok} (h:Ring l) (hd:(vs l).Nodup) (hl:∀ v∈vs l,v < n):∀ t∈l,okT n t:=by
 obtain ⟨r,hr⟩:=h
 intro t ht
 cases t with
 | V v=>exact hl v (mem_vs.2 ht)
 | A u v =>
  have h1:=hr.arcs ht
  have h2:=ArWalk.Ex.arc_ne hr hd (by simp) ht
  have hr':=hl r (hr.own rfl)
  refine ⟨?_,?_,h2⟩
  ·rcases h1.1 with rfl | h
   ·exact hr'
   ·exact hl _ h
  ·rcases h1.2 with rfl | h
   ·exact hr'
   ·exact hl _ h
def er (n:Nat) (l:List Tok):List Int:=l.map (tk n)
def ef (n:Nat) (f:List (List Tok)):List (List Int):=f.map (er n)
theorem map_inj_nodup {α β:Type}{f:α→β}{l:List α} (h:l.Nodup) (hi:∀ x∈l,∀ y∈l,f x=f y→x=y):(l.map f).Nodup:=by
 induction l with
 | nil=>simp
 | cons a l ih =>
  rw [List.nodup_cons] at h
  rw [List.map_cons,List.nodup_cons]
  refine ⟨?_,ih h.2 fun x hx y hy=>hi x (by simp [hx]) y (by simp [hy])⟩
  intro hm
  obtain ⟨b,hb,e⟩:=List.mem_map.1 hm
  have:=hi b (by simp [hb]) a (by simp) e
  subst this;exact h.1 hb
theorem lt_len {n:Nat}{l:List Nat} (hd:l.Nodup) (hl:∀ v∈l,v < n):l.length≤n:=by
 induction n generalizing l with
 | zero =>
  cases l with
  | nil=>simp
  | cons a l=>have:=hl a (by simp);omega
 | succ n ih =>
  have h1:=ih (l:=l.erase n) (hd.erase n) fun v hv=>by
   have h2:=(hd.mem_erase_iff).1 hv
   have:=hl v h2.2
   have:=h2.1
   omega
  rw [List.length_erase] at h1
  split at h1 <;> omega
theorem vs_len {n:Nat}{l:List Tok} (hd:(vs l).Nodup) (hl:∀ v∈vs l,v < n):(vs l).length≤n:=by
 exact lt_len hd hl
theorem rg_er {n:Nat}{l:List Tok} (hn:n≤64) (h:Ring l) (hd:(vs l).Nodup) (hl:∀ v∈vs l,v < n):Rg (er n l):=by
 have hok:=good_ok h hd hl
 refine ⟨?_,?_,?_⟩
 ·have:=ArLeaf.Ring.len h
  have:=vs_len hd hl
  simp [er];omega
 ·intro x hx
  obtain ⟨t,ht,rfl⟩:=List.mem_map.1 hx
  exact tk_rng hn (hok t ht)
 ·obtain ⟨r,hr⟩:=h
  exact map_inj_nodup (Ring.nodup hr hd (by simp)) fun x hx y hy e=>tk_inj (hok x hx) (hok y hy) e
theorem good_rg {n:Nat}{l:List Tok} (hn:n≤64) (h:ArForest.Good n l):Rg (er n l):=rg_er hn h.ring h.nodup h.lt
theorem er_mem {n:Nat}{l:List Tok} (hok:∀ t∈l,okT n t) {t:Tok} (ht:okT n t):tk n t∈er n l↔t∈l:=by
 constructor
 ·intro h
  obtain ⟨s,hs,e⟩:=List.mem_map.1 h
  rw [← tk_inj (hok s hs) ht e];exact hs
 ·exact fun h=>List.mem_map.2 ⟨t,h,rfl⟩
theorem er_idx {n:Nat}{l:List Tok} (hok:∀ t∈l,okT n t) {t:Tok} (ht:okT n t):(er n l).idxOf (tk n t)=l.idxOf t:=by
 induction l with
 | nil=>rfl
 | cons a l ih =>
  have ih:=ih fun s hs=>hok s (by simp [hs])
  by_cases e:a=t
  ·subst e;simp [er]
  ·have:tk n a≠tk n t:=fun h=>e (tk_inj (hok a (by simp)) ht h)
   show (tk n a::er n l).idxOf _=_
   rw [idx_ne this,idx_ne e,ih]
theorem er_trn {n:Nat}{l:List Tok} (hok:∀ t∈l,okT n t) {t:Tok} (ht:okT n t):trn (er n l) (tk n t)=er n (turn l t):=by
 unfold trn turn
 rw [er_idx hok ht]
 simp [er,List.map_drop,List.map_take]
theorem r18_in {n v:Nat} (h1:1≤n) (hn:n≤64) (hv:v < n):p_dy KK (n:Int) (v:Int)=some true:=by
 unfold p_dy
 rw [show decide ((n:Int)≥1)=true by simp;omega,show decide ((n:Int)≤64)=true by simp;omega,show decide ((v:Int)≥0)=true by simp]
 simp [hv]
theorem tour_sized {n:Nat} (h1:1≤n) (hn:n≤64):p_c4 KK (n:Int)=some true:=by
 unfold p_c4
 rw [show decide ((n:Int)≥1)=true by simp;omega,cond_true]
 simp;omega
theorem tour_in {n v:Nat} (h1:1≤n) (hn:n≤64) (hv:v < n):p_dj KK (n:Int) (v:Int)=some true:=by
 unfold p_dj
 rw [tour_sized h1 hn]
 simp [hv]
theorem r18_Arc {n u v:Nat} (h1:1≤n) (hn:n≤64) (hu:u < n) (hv:v < n) (hne:u≠v):p_fG KK (n:Int) (u:Int) (v:Int)=some (tk n (A u v)):=by
 have hb:=arc_lt hn hu hv
 unfold p_fG
 rw [r18_in h1 hn hu,r18_in h1 hn hv]
 simp only [Option.bind_some,Bool.not_true,cond_false]
 rw [show ((u:Int) == (v:Int))=false by simp;omega,cond_false]
 have e1:(u:Int) * (n:Int)=((u * n:Nat):Int):=by push_cast;rfl
 rw [e1,w64N (x:=((u * n:Nat):Int)) (by omega) (by omega),w64N (x:=(n:Int)+((u * n:Nat):Int)) (by omega) (by omega),w64N (by omega) (by omega)]
 simp only [tk];congr 1
theorem tour_Arc {n u v:Nat} (h1:1≤n) (hn:n≤64) (hu:u < n) (hv:v < n) (hne:u≠v):p_eN KK (n:Int) (u:Int) (v:Int)=some (tk n (A u v)):=by
 have hb:=arc_lt hn hu hv
 unfold p_eN
 rw [show ((u:Int) == (v:Int))=false by simp;omega,cond_false,tour_in h1 hn hu,tour_in h1 hn hv]
 simp only [Option.bind_some,Bool.not_true,cond_false]
 rw [w64N (x:=(u:Int)+1) (by omega) (by omega)]
 have e1:(n:Int) * ((u:Int)+1)=((n+u * n:Nat):Int):=by push_cast;rw [Int.mul_add,Int.mul_comm];omega
 rw [e1,w64N (x:=((n+u * n:Nat):Int)) (by omega) (by omega),w64N (by omega) (by omega)]
 simp only [tk];congr 1
def tel:Tok→Int × Int × Bool × Bool
 | V v=>(v,0,false,true)
 | A u v=>(u,v,true,true)
theorem divmod {n u v:Nat} (hn:0 < n) (hv:v < n):Int.tdiv ((u * n+v:Nat):Int) (n:Int)=(u:Int)∧Int.tmod ((u * n+v:Nat):Int) (n:Int)=(v:Int):=by
 have d1:(u * n+v) / n=u:=by rw [Nat.mul_comm,Nat.mul_add_div hn,Nat.div_eq_of_lt hv];omega
 have d2:(u * n+v) % n=v:=by rw [Nat.mul_comm,Nat.mul_add_mod,Nat.mod_eq_of_lt hv]
 constructor
 ·rw [← Int.ofNat_tdiv,d1]
 ·rw [← Int.ofNat_tmod,d2]
theorem r18_Token {n:Nat}{t:Tok} (h1:1≤n) (hn:n≤64) (ht:okT n t):p_fB KK (n:Int) (tk n t)=some (tel t):=by
 unfold p_fB
 cases t with
 | V v =>
  simp only [okT] at ht
  rw [show tk n (V v)=(v:Int) from rfl,r18_in h1 hn ht];rfl
 | A u v =>
  simp only [okT] at ht
  have hb:=arc_lt hn ht.1 ht.2.1
  rw [show tk n (A u v)=((n+u * n+v:Nat):Int) from rfl]
  have hin:p_dy KK (n:Int) ((n+u * n+v:Nat):Int)=some false:=by
   unfold p_dy
   rw [show decide ((n:Int)≥1)=true by simp;omega,show decide ((n:Int)≤64)=true by simp;omega,show decide (((n+u * n+v:Nat):Int)≥0)=true by simp;omega]
   simp;omega
  rw [hin]
  simp only [Option.bind_some,cond_false]
  rw [show decide ((n:Int) < 1)=false by simp;omega,show decide ((n:Int) > 64)=false by simp;omega,show decide (((n+u * n+v:Nat):Int) < (n:Int))=false by simp;omega]
  simp only [cond_false]
  have e1:(n:Int) * (n:Int)=((n * n:Nat):Int):=by push_cast;rfl
  rw [e1,w64N (x:=((n * n:Nat):Int)) (by omega) (by omega),w64N (x:=(n:Int)+((n * n:Nat):Int)) (by omega) (by omega)]
  rw [show decide (((n+u * n+v:Nat):Int)≥(n:Int)+((n * n:Nat):Int))=false by simp only [decide_eq_false_iff_not];omega,cond_false,nzN (by omega),nzN (by omega)]
  rw [w64N (x:=((n+u * n+v:Nat):Int) - (n:Int)) (by omega) (by omega),show ((n+u * n+v:Nat):Int) - (n:Int)=((u * n+v:Nat):Int) by omega,(divmod (by omega) ht.2.1).1,(divmod (by omega) ht.2.1).2,w64N (by omega) (by omega)]
  rw [show ((u:Int) == (v:Int))=false by simp;omega,cond_false];rfl
theorem tour_Token {n:Nat}{t:Tok} (h1:1≤n) (hn:n≤64) (ht:okT n t):p_eH KK (n:Int) (tk n t)=some (tel t):=by
 unfold p_eH
 rw [tour_sized h1 hn]
 simp only [Option.bind_some,Bool.not_true,cond_false]
 have hrg:=tk_rng hn ht
 have e1:(n:Int) * ((n:Int)+1)=((n+n * n:Nat):Int):=by push_cast;rw [Int.mul_add];omega
 have hnn:n * n≤64 * 64:=Nat.mul_le_mul hn hn
 rw [show decide (tk n t < 0)=false by simpa using hrg.1,cond_false,w64N (x:=(n:Int)+1) (by omega) (by omega),e1,w64N (x:=((n+n * n:Nat):Int)) (by omega) (by omega)]
 cases t with
 | V v =>
  simp only [okT] at ht
  rw [show tk n (V v)=(v:Int) from rfl,show decide ((v:Int)≥((n+n * n:Nat):Int))=false by simp only [decide_eq_false_iff_not];omega,cond_false,show decide ((v:Int) < (n:Int))=true by simp;omega];rfl
 | A u v =>
  simp only [okT] at ht
  have hb:=arc_lt hn ht.1 ht.2.1
  rw [show tk n (A u v)=((n+u * n+v:Nat):Int) from rfl,show decide (((n+u * n+v:Nat):Int)≥((n+n * n:Nat):Int))=false by simp only [decide_eq_false_iff_not];omega,cond_false,show decide (((n+u * n+v:Nat):Int) < (n:Int))=false by simp only [decide_eq_false_iff_not];omega,cond_false,nzN (by omega),nzN (by omega)]
  have e2:n+u * n+v=(u+1) * n+v:=by rw [Nat.add_mul];omega
  rw [e2,(divmod (by omega) ht.2.1).1,(divmod (by omega) ht.2.1).2,w64N (x:=((u+1:Nat):Int)) (by omega) (by omega),w64N (by omega) (by omega)]
  rw [show ((((u+1:Nat):Int) - 1) == (v:Int))=false by simp;omega,cond_false]
  simp only [tel];congr 2;omega
end Go.Ar.Mm
namespace Go.Ar.Mm
open ArTour ArForest ArWalk ArLeaf
open ArTour.Tok
theorem tmodN (a b:Nat):Int.tmod (a:Int) (b:Int)=((a % b:Nat):Int):=(Int.ofNat_tmod a b).symm
def rotL {α:Type} (i:Nat) (l:List α):List α:=l.drop i++l.take i
theorem rotL_len {α:Type} (i:Nat) (l:List α):(rotL i l).length=l.length:=by simp [rotL];omega
theorem rotL_get {α:Type}{i d:Nat}{l:List α} (hi:i < l.length) (hd:d < l.length):(rotL i l)[d]? = l[(i+d) % l.length]?:=by
 unfold rotL
 rcases Nat.lt_or_ge (i+d) l.length with h | h
 ·rw [List.getElem?_append_left (by simp;omega),List.getElem?_drop,Nat.mod_eq_of_lt h]
 ·rw [List.getElem?_append_right (by simp;omega),Nat.mod_eq_sub_mod h,Nat.mod_eq_of_lt (by omega),List.getElem?_take,if_pos (by simp;omega)]
  congr 1;simp;omega
theorem er_rot (n i:Nat) (l:List Tok):er n (rot i l)=rotL i (er n l):=by simp [er,rot,rotL,List.map_drop,List.map_take]
theorem er_get {n i:Nat}{l:List Tok}{t:Tok} (h:l[i]? = some t):(er n l)[i]? = some (tk n t):=by simp [er,h]
theorem r18_stands {n:Nat}{t:Tok}{u:Nat} (h1:1≤n) (hn:n≤64) (ht:okT n t):p_fV KK (n:Int) (tk n t) (u:Int)=some (decide (t.stand=u)):=by
 unfold p_fV
 rw [r18_Token h1 hn ht]
 cases t with
 | V v =>
  simp only [tel,Option.bind_some,cond_true,Bool.not_false,Tok.stand]
  by_cases e:v=u
  ·subst e;simp
  ·rw [show ((v:Int) == (u:Int))=false by simp;omega,cond_false,cond_false];simp [e]
 | A a v =>
  simp only [tel,Option.bind_some,cond_true,Bool.not_true,cond_false,Tok.stand]
  by_cases e:v=u
  ·subst e;simp
  ·rw [show ((v:Int) == (u:Int))=false by simp;omega];simp [e]
structure Rn (n:Nat) (l:List Tok):Prop where
 ring:Ring l
 nodup:(vs l).Nodup
 lt:∀ v∈vs l,v < n
theorem Rn.ok {n:Nat}{l:List Tok} (h:Rn n l):∀ t∈l,okT n t:=good_ok h.ring h.nodup h.lt
theorem Rn.len {n:Nat}{l:List Tok} (h:Rn n l):l.length+2=3 * (vs l).length∧(vs l).length≤n:=⟨ArLeaf.Ring.len h.ring,vs_len h.nodup h.lt⟩
theorem tree_L3 {l:List Int}{i:Nat} (hi:i < l.length) (hl:l.length < 900) (h3:3≤l.length):p_dL KK l (i:Int) KK 3 []=some ((rotL i l).drop 3):=by
 have:=loopC (σ:=List Int) (ρ:=List Int) l.length (fun n j s=>p_dL KK l (i:Int) n (j:Int) s) (fun j s=>some (s++(rotL i l).drop j)) (fun j s=>s.length≤j)
  (fun n s _=>by
   simp only [p_dL,ltF (Nat.le_refl _),cond_false]
   rw [List.drop_eq_nil_of_le (by rw [rotL_len];omega)];simp)
  (fun n j s hs hj ih=>by
   have hlt:(i+j) % l.length < l.length:=Nat.mod_lt _ (by omega)
   have hg:l[(i+j) % l.length]? = some l[(i+j) % l.length]:=List.getElem?_eq_getElem hlt
   have hg2:=rotL_get hi hj
   rw [hg] at hg2
   simp only [p_dL,ltT hj,cond_true]
   rw [nzN (by omega),show (i:Int)+(j:Int)=((i+j:Nat):Int) by omega,w64c (by omega),tmodN,ixN hg,apN (by simp;omega) (by omega),w64s (by omega),ih _ (by simp;omega)]
   have hlt2:j < (rotL i l).length:=by rw [rotL_len];exact hj
   rw [List.drop_eq_getElem_cons hlt2]
   have:(rotL i l)[j]=l[(i+j) % l.length]:=by
    rw [List.getElem?_eq_getElem hlt2] at hg2;exact Option.some.inj hg2
   rw [this];simp)
  (j:=3) (n:=KK) (s:=[]) h3 (by show _ < 1000;omega) (by simp)
 simpa using this
theorem tree_L2_true (n a0:Int) (m:Nat) (l:List Int) (i:Int):p_dd KK a0 (m+1) l true i=some (l,true):=by
 unfold p_dd
 cases decide (i < (l.length:Int)) <;> rfl
theorem tree_L2 {n : Nat} {l : List Tok} (h1 : 1 ≤ n) (hn : n ≤ 64) (h : Rn n l) (hl : 4 ≤ l.length) :
    ∀ m i fuel,l.length - i=m→m < fuel→(∃ i' u v rest,i≤i'∧i' < l.length∧rot i' l=A u v::V v::A v u::rest∧(∃ t,rest.getLast? = some t∧t.stand=u)) →
     ∃ rest,p_dd KK (n:Int) fuel (er n l) false (i:Int)=some (er n rest,true)∧Rn n rest∧rest.length+3=l.length:=by
 have hok:=h.ok
 have hlen:=h.len
 have hel:(er n l).length=l.length:=by simp [er]
 intro m
 induction m with
 | zero=>rintro i fuel hm _ ⟨i',_,_,_,h1,h2,_⟩;omega
 | succ m ih =>
  intro i fuel hm hf hex
  obtain ⟨fuel,rfl⟩:∃ k,fuel=k+1:=⟨fuel - 1,by omega⟩
  have hi:i < l.length:=by omega
  have hget:∀ d,d < l.length→∃ t,(rot i l)[d]? = some t∧l[(i+d) % l.length]? = some t∧(er n l)[(i+d) % l.length]? = some (tk n t)∧okT n t:=by
   intro d hd
   have hlt:(i+d) % l.length < l.length:=Nat.mod_lt _ (by omega)
   have:=rotL_get hi hd
   refine ⟨l[(i+d) % l.length],this.trans (List.getElem?_eq_getElem hlt),List.getElem?_eq_getElem hlt,er_get (List.getElem?_eq_getElem hlt),hok _ (List.getElem_mem hlt)⟩
  obtain ⟨t0,r0,_,g0,k0⟩:=hget 0 (by omega)
  obtain ⟨t1,r1,_,g1,k1⟩:=hget 1 (by omega)
  obtain ⟨t2,r2,_,g2,k2⟩:=hget 2 (by omega)
  obtain ⟨tl,rl,_,gl,kl⟩:=hget (l.length - 1) (by omega)
  rw [Nat.add_zero,Nat.mod_eq_of_lt hi] at g0
  have hrl:=rot_length i l
  obtain ⟨rest,hrot⟩:∃ rest,rot i l=t0::t1::t2::rest:=by
   match hh:rot i l,hrl with
   | a::b::c::rest,_ =>
    rw [hh] at r0 r1 r2
    simp at r0 r1 r2
    exact ⟨rest,by rw [r0,r1,r2]⟩
   | [],e=>simp at e;omega
   | [_],e=>simp at e;omega
   | [_,_],e=>simp at e;omega
  have hlast:rest.getLast? = some tl:=by
   rw [hrot] at rl hrl
   simp only [List.length_cons] at hrl
   rw [List.getLast?_eq_getElem?,← rl]
   obtain ⟨k,hk⟩:∃ k,l.length=k+4:=⟨l.length - 4,by omega⟩
   rw [hk,show k+4 - 1=k+3 by omega]
   simp only [List.getElem?_cons_succ]
   congr 1;omega
  have hskip : ∀ x, x = p_dd KK (n : Int) fuel (er n l) false ((i + 1 : Nat) : Int) → (¬ ∃ u v, t0 = A u v ∧ t1 = V v ∧ t2 = A v u ∧ tl.stand = u) →
      ∃ rest,x=some (er n rest,true)∧Rn n rest∧rest.length+3=l.length:=by
   intro x hx hno
   obtain ⟨i',u,v,rs,c1,c2,c3,t,c4,c5⟩:=hex
   have hne:i'≠i:=by
    rintro rfl
    rw [hrot] at c3
    simp only [List.cons.injEq] at c3
    obtain ⟨rfl,rfl,rfl,rfl⟩:=c3
    rw [hlast] at c4;cases c4
    exact hno ⟨u,v,rfl,rfl,rfl,c5⟩
   rw [hx]
   exact ih (i+1) fuel (by omega) (by omega) ⟨i',u,v,rs,by omega,c2,c3,t,c4,c5⟩
  unfold p_dd
  rw [hel,ltT hi,cond_true,Bool.not_false,cond_true,ixN g0,nzN (by omega),w64s (by omega),tmodN,ixN g1,nzN (by omega),show w64 ((i:Int)+2)=((i+2:Nat):Int) by rw [w64N] <;> omega,tmodN,ixN g2,r18_Token h1 hn k0,Option.bind_some]
  rw [show decide ((l.length:Int)≥4)=true by simp;omega,cond_true]
  cases t0 with
  | V v =>
   simp only [tel,cond_true,cond_false,Option.bind_some]
   exact hskip _ rfl (by rintro ⟨u,v,h,_⟩;cases h)
  | A u v =>
   simp only [tel,cond_true]
   by_cases e1:t1=V v
   ·subst e1
    rw [show (tk n (V v) == (v:Int))=true by simp [tk],cond_true]
    rw [r18_Arc h1 hn k0.2.1 k0.1 (Ne.symm k0.2.2),Option.bind_some]
    by_cases e2:t2=A v u
    ·subst e2
     rw [show (tk n (A v u) == tk n (A v u))=true by simp,cond_true,nzN (by omega)]
     have e3:w64 (w64 ((i:Int)+(l.length:Int)) - 1)=((i+(l.length - 1):Nat):Int):=by
      rw [w64N (x:=(i:Int)+(l.length:Int)) (by omega) (by omega),w64N] <;> omega
     rw [e3,tmodN,ixN gl,r18_stands h1 hn kl,Option.bind_some]
     by_cases e4:tl.stand=u
     ·rw [decide_eq_true e4,cond_true,tree_L3 (by rw [hel];exact hi) (by rw [hel];omega) (by rw [hel];omega)]
      simp only [Option.bind_some]
      obtain ⟨fuel,rfl⟩:∃ k,fuel=k+1:=⟨fuel - 1,by omega⟩
      rw [tree_L2_true n,← er_rot,hrot]
      have ht:=ring_take h.ring h.nodup hrot
      refine ⟨rest,rfl,⟨ht.1,ht.2.1,fun w hw=>h.lt w (ht.2.2.2.mem_iff.1 (by simp [hw]))⟩,ht.2.2.1⟩
     ·rw [decide_eq_false e4,cond_false]
      simp only [Option.bind_some]
      exact hskip _ rfl (by rintro ⟨u',v',h,_,_,h4⟩;cases h;exact e4 h4)
    ·rw [show (tk n t2 == tk n (A v u))=false by
      simp only [beq_eq_false_iff_ne];intro hh;exact e2 (tk_inj k2 ⟨k0.2.1,k0.1,Ne.symm k0.2.2⟩ hh),cond_false]
     simp only [Option.bind_some]
     exact hskip _ rfl (by rintro ⟨u',v',h,_,h3,_⟩;cases h;exact e2 h3)
   ·rw [show (tk n t1 == (v:Int))=false by
     simp only [beq_eq_false_iff_ne];intro hh;exact e1 (tk_inj (t:=V v) k1 k0.2.1 hh),cond_false]
    simp only [Option.bind_some]
    exact hskip _ rfl (by rintro ⟨u',v',h,h2,_⟩;cases h;exact e1 h2)
theorem tree_L1 {n:Nat} (h1:1≤n) (hn:n≤64):∀ (m:Nat) (l:List Tok) (fuel:Nat),l.length≤m→m < fuel→Rn n l→∃ v,v < n∧p_fe KK (n:Int) fuel (er n l)=some (.inl [(v:Int)]):=by
 intro m
 induction m with
 | zero =>
  intro l fuel hm _ h
  have:=h.len
  omega
 | succ m ih =>
  intro l fuel hm hf h
  obtain ⟨fuel,rfl⟩:∃ k,fuel=k+1:=⟨fuel - 1,by omega⟩
  have hlen:=h.len
  have hel:(er n l).length=l.length:=by simp [er]
  unfold p_fe
  rw [hel]
  by_cases e:l.length=1
  ·rw [show decide ((l.length:Int) > 1)=false by simp;omega,cond_false]
   match l,e with
   | [t],_ =>
    obtain ⟨r,hr⟩:=h.ring
    have:=hr.own rfl
    have hm:=mem_vs.1 this
    simp only [List.mem_singleton] at hm
    subst hm
    exact ⟨r,h.lt r this,rfl⟩
  ·rw [show decide ((l.length:Int) > 1)=true by simp;omega,cond_true]
   obtain ⟨i,u,v,rest,c1,c2,c3⟩:=ring_leaf h.ring e
   obtain ⟨rs,d1,d2,d3⟩:=tree_L2 h1 hn h (by omega) l.length 0 KK (by omega) (by show _ < 1000;omega) ⟨i,u,v,rest,Nat.zero_le _,c1,c2,c3⟩
   rw [show (0:Int)=((0:Nat):Int) from rfl,d1]
   simp only [Option.bind_some,Bool.not_true,cond_false]
   exact ih rs fuel (by omega) (by omega) d2
theorem r18_tree {n:Nat}{l:List Tok} (h1:1≤n) (hn:n≤64) (h:Rn n l):p_ga KK (n:Int) (er n l)=some true:=by
 have hlen:=h.len
 have hel:(er n l).length=l.length:=by simp [er]
 unfold p_ga
 rw [hel,apN (by simp;omega) (by omega),List.nil_append]
 obtain ⟨v,hv,e⟩:=tree_L1 h1 hn l.length l KK (Nat.le_refl _) (by show _ < 1000;omega) h
 rw [e]
 simp only [Option.bind_some,List.length_singleton]
 rw [show (((1:Nat):Int) == 1)=true from rfl,cond_true,ix0,r18_in h1 hn hv];rfl
end Go.Ar.Mm
namespace Go.Ar.Mm
open ArTour ArForest ArWalk ArLeaf
open ArTour.Tok
def cs (l:List Nat):List Int:=l.map fun v:Nat=>(v:Int)
def on1 (l:List Nat):List (Int × Int):=l.map fun v:Nat=>((v:Int),(1:Int))
structure Wk (st:List Nat × List Nat × List Nat) (l1:List Int) (m2 m3:Mp Int Int):Prop where
 way:l1=cs st.1.reverse
 came:m2.l=on1 st.2.1.reverse
 met:m3.l=on1 st.2.2.reverse
theorem on1_keys (l:List Nat):(on1 l).map (·.1)=cs l:=by simp [on1,cs]
theorem cs_mem {l:List Nat}{v:Nat}:(v:Int)∈cs l↔v∈l:=by
 simp only [cs,List.mem_map]
 exact ⟨fun ⟨a,h,e⟩=>by rw [show v=a by omega];exact h,fun h=>⟨v,h,rfl⟩⟩
theorem get_on1 {m:Mp Int Int}{l:List Nat} (h:m.l=on1 l) (v:Nat):m.get? (v:Int)=if v∈l then some 1 else none:=by
 unfold Mp.get?
 rw [h]
 clear h
 induction l with
 | nil=>rfl
 | cons a l ih =>
  show List.lookup (v:Int) (((a:Int),(1:Int))::on1 l)=_
  by_cases e:v=a
  ·subst e;simp [List.lookup]
  ·have:((v:Int) == (a:Int))=false:=by simp;omega
   simp only [List.lookup,this,ih,List.mem_cons,e,false_or]
theorem set_on1 {m:Mp Int Int}{l:List Nat} (h:m.l=on1 l) {v:Nat} (hv:v ∉ l):(m.set (v:Int) 1).l=on1 (l++[v]):=by
 have:(v:Int) ∉ m.l.map (·.1):=by rw [h,on1_keys,cs_mem];exact hv
 rw [set_new this,h];simp [on1]
theorem cs_len (l:List Nat):(cs l).length=l.length:=by simp [cs]
theorem cs_last (ws:List Nat) (w:Nat):(cs (w::ws).reverse)[ws.length]? = some (w:Int):=by
 simp [cs]
theorem cs_last2 (ws:List Nat) (w w1:Nat):(cs (w::w1::ws).reverse)[ws.length]? = some (w1:Int):=by
 simp [cs]
theorem walk_along {st st' : List Nat × List Nat × List Nat} {l1 : List Int} {m2 m3 : Mp Int Int} {u v : Nat} (h : Wk st l1 m2 m3) (hl : l1.length < 900) (hs : wstep st (A u v) = some st') :
    ∃ l1' m2',p_dg KK ⟨l1,m2,m3⟩ (u:Int) (v:Int)=some (true,⟨l1',m2',m3⟩)∧Wk st' l1' m2' m3∧l1'.length≤l1.length+1:=by
 obtain ⟨way,came,met⟩:=st
 obtain ⟨h1,h2,h3⟩:=h
 simp only at h1 h2 h3
 simp only [wstep] at hs
 cases way with
 | nil=>simp at hs
 | cons w ws =>
  by_cases e0:w=u
  ·subst e0
   simp only [List.head?_cons,List.tail_cons,ne_eq,not_true_eq_false,if_false] at hs
   replace hs:(if ws.head? = some v then some (ws,came,met) else if v∈came then none else some (v::w::ws,v::came,met))=some st':=hs
   have hlen:l1.length=ws.length+1:=by rw [h1,cs_len];simp
   have hw:w64 ((l1.length:Int) - 1)=((ws.length:Nat):Int):=by rw [w64N] <;> omega
   have hg:l1[ws.length]? = some (w:Int):=by rw [h1];exact cs_last ws w
   have hgv:=get_on1 h2 v
   have push:ws.head?≠some v→∃ l1' m2',(bif (decide (((m2.get? (v:Int)).getD 0) > 0)) then some (false,Tour_walk_.mk l1 m2 m3) else (apP 8 l1.length [(v:Int)].length (some (true,(Tour_walk_.mk (l1++[(v:Int)]) (m2.set (v:Int) (w64 (((m2.get? (v:Int)).getD 0)+1))) m3)))))=some (true,⟨l1',m2',m3⟩)∧Wk st' l1' m2' m3∧l1'.length≤l1.length+1:=by
    intro hh
    rw [if_neg hh] at hs
    by_cases hc:v∈came
    ·rw [if_pos hc] at hs;cases hs
    ·rw [if_neg hc] at hs
     cases hs
     have hn:v ∉ came.reverse:=by simpa using hc
     rw [if_neg hn] at hgv
     refine ⟨l1++[(v:Int)],m2.set (v:Int) 1,?_,⟨?_,?_,h3⟩,by simp⟩
     ·rw [hgv]
      simp only [Option.getD_none]
      rw [show decide ((0:Int) > 0)=false from rfl,cond_false,apN (by simp;omega) (by omega)];rfl
     ·rw [h1];simp [cs]
     ·rw [set_on1 h2 hn];simp
   unfold p_dg
   simp only []
   rw [hw,bdN (by omega),gtN hg,show ((w:Int) != (w:Int))=false by simp,cond_false]
   cases ws with
   | nil =>
    rw [show decide ((([]:List Nat).length:Int) > 0)=false from rfl,cond_false]
    exact push (by simp)
   | cons w1 ws =>
    have hw2:w64 ((((w1::ws).length:Nat):Int) - 1)=((ws.length:Nat):Int):=by
     simp only [List.length_cons] at hlen ⊢;rw [w64N] <;> omega
    have hg2:l1[ws.length]? = some (w1:Int):=by rw [h1];exact cs_last2 ws w w1
    rw [show decide ((((w1::ws).length:Nat):Int) > 0)=true by simp,cond_true,hw2,bdN (by simp at hlen;omega),gtN hg2]
    by_cases e1:w1=v
    ·subst e1
     rw [show ((w1:Int) == (w1:Int))=true by simp,cond_true,bdN (by omega)]
     simp only [List.head?_cons,if_true] at hs
     cases hs
     refine ⟨_,_,rfl,⟨?_,h2,h3⟩,by simp;omega⟩
     rw [h1]
     have hlen2:(cs (w1::ws).reverse).length=(w1::ws).length:=by rw [cs_len];simp
     have:cs (w::w1::ws).reverse=cs (w1::ws).reverse++[(w:Int)]:=by simp [cs]
     rw [this,List.take_left' hlen2]
    ·rw [show ((w1:Int) == (v:Int))=false by simp;omega,cond_false]
     exact push (by simpa using e1)
  ·have:(w::ws).head?≠some u:=by simpa using e0
   rw [if_pos this] at hs;cases hs
theorem met_suffix {l:List Tok}:∀ {st st':List Nat × List Nat × List Nat},l.foldlM wstep st=some st'→st.2.2 <:+ st'.2.2:=by
 induction l with
 | nil=>intro st st' h;simp at h;rw [h];exact List.suffix_refl _
 | cons t l ih =>
  intro st st' h
  rw [List.foldlM_cons] at h
  cases hw:wstep st t with
  | none=>rw [hw] at h;cases h
  | some s1 =>
   rw [hw] at h
   have:=ih h
   refine List.IsSuffix.trans ?_ this
   cases t with
   | V u =>
    simp only [wstep] at hw
    split at hw
    ·cases hw;exact List.suffix_cons _ _
    ·cases hw
   | A u v =>
    simp only [wstep] at hw
    split at hw
    ·cases hw
    ·split at hw
     ·cases hw;exact List.suffix_refl _
     ·split at hw
      ·cases hw
      ·cases hw;exact List.suffix_refl _
theorem goes_L1 {n : Nat} {ls : List Tok} (h1 : 1 ≤ n) (hn : n ≤ 64) (hok : ∀ t ∈ ls, okT n t) (hll : ls.length < 400) :
    ∀ (rest:List Tok) (j fuel:Nat) (st st':List Nat × List Nat × List Nat) (l1:List Int) (m2 m3:Mp Int Int),ls.drop j=rest→j+rest.length=ls.length→rest.length < fuel→Wk st l1 m2 m3→l1.length≤j+1 →
     rest.foldlM wstep st=some st'→st'.2.2.Nodup→∃ l1' m2' m3',p_E KK (er n ls) (n:Int) fuel (j:Int) l1 m2 m3=some (.inl (l1',m2',m3'))∧Wk st' l1' m2' m3':=by
 intro rest
 induction rest with
 | nil =>
  intro j fuel st st' l1 m2 m3 hd hj hf hw hl hfold _
  obtain ⟨fuel,rfl⟩:∃ k,fuel=k+1:=⟨fuel - 1,by simp at hf;omega⟩
  simp at hfold hj
  subst hfold
  unfold p_E
  rw [show (er n ls).length=ls.length by simp [er],ltF (by omega),cond_false]
  exact ⟨l1,m2,m3,rfl,hw⟩
 | cons t rest ih =>
  intro j fuel st st' l1 m2 m3 hd hj hf hw hl hfold hnd
  obtain ⟨fuel,rfl⟩:∃ k,fuel=k+1:=⟨fuel - 1,by simp at hf;omega⟩
  simp only [List.length_cons] at hj hf
  have hlt:j < ls.length:=by omega
  have hdr:=List.drop_eq_getElem_cons hlt
  rw [hd] at hdr
  simp only [List.cons.injEq] at hdr
  have hg:ls[j]? = some t:=by rw [List.getElem?_eq_getElem hlt,hdr.1]
  have ht:okT n t:=hok t (List.mem_of_getElem? hg)
  rw [List.foldlM_cons] at hfold
  cases hws:wstep st t with
  | none=>rw [hws] at hfold;cases hfold
  | some s1 =>
   rw [hws] at hfold
   have hsuf:=met_suffix hfold
   unfold p_E
   rw [show (er n ls).length=ls.length by simp [er],ltT hlt,cond_true,ixN (er_get hg),tour_Token h1 hn ht,Option.bind_some]
   cases t with
   | A u v =>
    obtain ⟨l1',m2',e1,hw',hl'⟩:=walk_along hw (by omega) hws
    simp only [tel,Bool.not_true,cond_false,cond_true,e1,Option.bind_some]
    rw [w64s (by omega)]
    exact ih (j+1) fuel s1 st' l1' m2' m3 hdr.2.symm (by omega) (by omega) hw' (by omega) hfold hnd
   | V u =>
    simp only [wstep] at hws
    split at hws
    ·rename_i hh
     cases hws
     obtain ⟨way,came,met⟩:=st
     obtain ⟨a1,a2,a3⟩:=hw
     simp only at a1 a2 a3 hh hsuf
     cases way with
     | nil=>simp at hh
     | cons w ws =>
      simp at hh
      subst hh
      have hlen:l1.length=ws.length+1:=by rw [a1,cs_len];simp
      have hwl:w64 ((l1.length:Int) - 1)=((ws.length:Nat):Int):=by rw [w64N] <;> omega
      have hgl:l1[ws.length]? = some (w:Int):=by rw [a1];exact cs_last ws w
      have hn1:w ∉ met:=by
       have:=hnd.sublist hsuf.sublist
       exact (List.nodup_cons.1 this).1
      have hn2:w ∉ met.reverse:=by simpa using hn1
      have hgm:=get_on1 a3 w
      rw [if_neg hn2] at hgm
      simp only [tel,Bool.not_true,Bool.not_false,cond_false,cond_true]
      rw [hwl,bdN (by omega),gtN hgl,show ((w:Int) != (w:Int))=false by simp,cond_false,hgm,w64s (by omega)]
      refine ih (j+1) fuel _ st' l1 m2 (m3.set (w:Int) (w64 ((none:Option Int).getD 0+1))) hdr.2.symm (by omega) (by omega) ⟨a1,a2,?_⟩ (by omega) hfold hnd
      show (m3.set (w:Int) 1).l=_
      rw [set_on1 a3 hn2];simp
    ·cases hws
theorem tour_goes {n:Nat}{l:List Tok} (h1:1≤n) (hn:n≤64) (h:ArForest.Good n l):p_eZ KK (n:Int) (er n l)=some true:=by
 obtain ⟨came,met,e1,e2,e3,e4,e5⟩:=walk_good h
 obtain ⟨y,ey⟩:=h.head
 have hr:Rn n l:=⟨h.ring,h.nodup,h.lt⟩
 have hlt:=h.lt _ h.least_mem
 have hlen:=hr.len
 have h0:(er n l)[0]? = some ((ArForest.least n l:Nat):Int):=by rw [ey];simp [er,tk];rw [← ey]
 have hx:∀ {β:Type} (k:Int→Option β),ixP (er n l) 0 k=k ((ArForest.least n l:Nat):Int):=fun k=>ixN (j:=0) h0
 unfold p_eZ
 rw [hx,tour_in h1 hn hlt]
 simp only [Option.bind_some,Bool.not_true,cond_false,hx]
 obtain ⟨l1',m2',m3',g1,g2⟩:=goes_L1 h1 hn hr.ok (by omega) l 0 KK ([ArForest.least n l],[ArForest.least n l],[]) _ [((ArForest.least n l:Nat):Int)] ((Mp.empty:Mp Int Int).set ((ArForest.least n l:Nat):Int) 1) (Mp.empty:Mp Int Int) rfl (by simp) (by show _ < 1000;omega)
  ⟨by simp [cs],by simp [Mp.set,Mp.setL,Mp.empty,on1],by simp [Mp.empty,on1]⟩ (by simp) e1 e3
 rw [show (0:Int)=((0:Nat):Int) from rfl,g1]
 simp only [Option.bind_some]
 rw [g2.way]
 simp only [List.reverse_singleton]
 rw [show (((cs [ArForest.least n l]).length:Int) == 1)=true by simp [cs],cond_true]
 have p1:m3'.len=m2'.len:=by
  unfold Mp.len
  rw [g2.met,g2.came]
  simp only [on1,List.length_map,List.length_reverse]
  exact (List.Perm.length_eq ((List.perm_ext_iff_of_nodup e3 e2).2 fun v=>by rw [e4,e5]))
 rw [p1];simp
end Go.Ar.Mm
namespace Go.Ar.Mm
open ArTour ArForest ArWalk ArLeaf
open ArTour.Tok
theorem get_set {κ ν:Type} [DecidableEq κ] (m:Mp κ ν) (k q:κ) (v:ν):(m.set k v).get? q=if q=k then some v else m.get? q:=by
 unfold Mp.get? Mp.set Mp.setL
 simp only []
 generalize m.l=l
 split
 ·rename_i h
  induction l with
  | nil=>simp at h
  | cons p l ih =>
   obtain ⟨a,b⟩:=p
   by_cases e:a=k
   ·subst e
    by_cases e2:q=a
    ·subst e2;simp [List.lookup]
    ·have h2:(q == a)=false:=by simpa using e2
     simp only [List.map_cons,if_true,List.lookup,h2,if_neg e2]
     clear ih h
     induction l with
     | nil=>rfl
     | cons p l ih =>
      obtain ⟨c,d⟩:=p
      by_cases e3:c=a
      ·subst e3;simp only [List.map_cons,if_true,List.lookup,h2];exact ih
      ·simp only [List.map_cons,if_neg e3,List.lookup]
       cases (q == c)
       ·exact ih
       ·rfl
   ·have h3:k∈l.map (·.1):=by
     simp only [List.map_cons,List.mem_cons] at h
     rcases h with h | h
     ·exact absurd h.symm e
     ·exact h
    simp only [List.map_cons,if_neg e,List.lookup]
    by_cases e2:q=a
    ·subst e2
     simp [e]
    ·have h2:(q == a)=false:=by simpa using e2
     rw [h2];exact ih h3
 ·rename_i h
  induction l with
  | nil =>
   by_cases e:q=k
   ·subst e;simp [List.lookup]
   ·have h2:(q == k)=false:=by simpa using e
    simp [List.lookup,h2,e]
  | cons p l ih =>
   obtain ⟨a,b⟩:=p
   simp only [List.map_cons,List.mem_cons,not_or] at h
   by_cases e2:q=a
   ·subst e2
    have:¬ q=k:=fun e=>h.1 e.symm
    simp [List.lookup,this]
   ·have h2:(q == a)=false:=by simpa using e2
    simp only [List.cons_append,List.lookup,h2]
    exact ih h.2
theorem mn_least {l:List Int}{d:Int} (h:∀ x∈l,d≤x):mn l d=d:=by
 unfold mn
 induction l with
 | nil=>rfl
 | cons a l ih =>
  have:=h a (by simp)
  rw [List.foldl_cons,if_neg (by omega)]
  exact ih fun x hx=>h x (by simp [hx])
theorem good_head {n:Nat}{l:List Tok} (h:ArForest.Good n l):(∃ t,er n l=((ArForest.least n l:Nat):Int)::t)∧mn (er n l) ((ArForest.least n l:Nat):Int)=((ArForest.least n l:Nat):Int):=by
 obtain ⟨y,e⟩:=h.head
 have hlt:=h.lt _ h.least_mem
 refine ⟨⟨er n y,?_⟩,mn_least fun x hx=>?_⟩
 ·conv=>lhs;rw [e]
  rfl
 ·obtain ⟨t,ht,rfl⟩:=List.mem_map.1 hx
  cases t with
  | V v=>have:=h.least_le v (mem_vs.2 ht);simp only [tk];omega
  | A u v=>simp only [tk];omega
theorem r01_Ints {l:List Int} (hl:l.length < 1000):p_co KK l l=some true:=by
 have := loopL (σ := Unit) (ρ := Sum Unit Bool) l (fun n j _ => p_cn KK l l n (j : Int)) (fun _ _ => some (.inl ())) (fun _ _ => True)
     (fun n s _=>by simp only [p_cn,ltF (Nat.le_refl _),cond_false])
     (fun n j s y rest _ hlt hx hr ih=>by
      have ih:=ih () trivial
      simp only [p_cn,ltT hlt,cond_true,ixN hx]
      rw [show (y != y)=false by simp,cond_false,w64s (by omega)]
      exact ih)
     (n:=KK) (s:=()) hl trivial
 unfold p_co
 rw [show ((l.length:Int) != (l.length:Int))=false by simp,cond_false,show (0:Int)=((0:Nat):Int) from rfl,this];rfl
theorem equal_eq:∀ (a b:List Int) (n:Nat) (i:Int),p_9 KK a b n i=p_cn KK a b n i:=by
 intro a b n
 induction n with
 | zero=>intro i;rfl
 | succ n ih=>intro i;simp only [p_9,p_cn,ih]
theorem slices_Equal {l:List Int} (hl:l.length < 1000):p_k KK l l=some true:=by
 have:=r01_Ints hl
 unfold p_co at this
 unfold p_k
 rw [equal_eq];exact this
theorem r14_Lists {l:List (List Int)} (hl:l.length < 1000) (h:∀ x∈l,x.length < 1000):p_cZ KK l l=some true:=by
 have := loopL (σ := Unit) (ρ := Sum Unit Bool) l (fun n j _ => p_cM KK l l n (j : Int)) (fun _ _ => some (.inl ())) (fun _ _ => True)
     (fun n s _=>by simp only [p_cM,ltF (Nat.le_refl _),cond_false])
     (fun n j s y rest _ hlt hx hr ih=>by
      have ih:=ih () trivial
      simp only [p_cM,ltT hlt,cond_true,ixN hx,r01_Ints (h y (List.mem_of_getElem? hx)),Option.bind_some,Bool.not_true,cond_false]
      rw [w64s (by omega)]
      exact ih)
     (n:=KK) (s:=()) hl trivial
 unfold p_cZ
 rw [show ((l.length:Int) != (l.length:Int))=false by simp,cond_false,show (0:Int)=((0:Nat):Int) from rfl,this];rfl
theorem trn_head {y:Int}{t:List Int}:trn (y::t) y=y::t:=by simp [trn]
def MtM (n:Nat) (m:Mp Int Int) (seen:List Nat):Prop:=∀ v,v < n→(m.get? (v:Int)).getD 0=if v∈seen then 1 else 0
structure MtB (n:Nat) (l:List Bool) (seen:List Nat):Prop where
 len:l.length=n
 get:∀ v,v < n→l[v]? = some (decide (v∈seen))
theorem tour_L2 {n : Nat} {ls : List Tok} {a0 : Fo} {v4 : Int} (ha : a0.n = (n : Int)) (hok : ∀ t ∈ ls, okT n t) (hll : ls.length < 900) :
    ∀ (rest:List Tok) (j fuel:Nat) (m:Mp Int Int) (seen:List Nat),ls.drop j=rest→j+rest.length=ls.length→rest.length < fuel→MtM n m seen→(seen++vs rest).Nodup →
     ∃ m',p_ch KK a0 fuel v4 (er n ls) (ls.length:Int) (j:Int) m=some (.inl (v4,m'))∧MtM n m' (seen++vs rest):=by
 intro rest
 induction rest with
 | nil =>
  intro j fuel m seen hd hj hf hm _
  obtain ⟨fuel,rfl⟩:∃ k,fuel=k+1:=⟨fuel - 1,by simp at hf;omega⟩
  simp at hj
  unfold p_ch
  rw [ltF (by omega),cond_false]
  exact ⟨m,rfl,by simpa using hm⟩
 | cons t rest ih =>
  intro j fuel m seen hd hj hf hm hn
  obtain ⟨fuel,rfl⟩:∃ k,fuel=k+1:=⟨fuel - 1,by simp at hf;omega⟩
  simp only [List.length_cons] at hj hf
  have hlt:j < ls.length:=by omega
  have hdr:=List.drop_eq_getElem_cons hlt
  rw [hd] at hdr
  simp only [List.cons.injEq] at hdr
  have hg:ls[j]? = some t:=by rw [List.getElem?_eq_getElem hlt,hdr.1]
  have ht:okT n t:=hok t (List.mem_of_getElem? hg)
  unfold p_ch
  rw [ltT hlt,cond_true,ixN (er_get hg),ha]
  cases t with
  | V v =>
   simp only [okT] at ht
   simp only [vs_V] at hn
   have hv:v ∉ seen:=fun h=>(List.nodup_append.1 hn).2.2 v h v (by simp) rfl
   have hmv:=hm v ht
   rw [if_neg hv] at hmv
   rw [show tk n (V v)=(v:Int) from rfl,ltT ht,cond_true,hmv,show decide ((0:Int) > 0)=false from rfl,cond_false,w64s (by omega)]
   obtain ⟨m',e1,e2⟩:=ih (j+1) fuel (m.set (v:Int) (w64 (0+1))) (seen++[v]) hdr.2.symm (by omega) (by omega) (by
    intro w hw
    rw [get_set]
    by_cases e:w=v
    ·subst e;simp;rfl
    ·rw [if_neg (by omega),hm w hw];simp [e]) (by simpa using hn)
   exact ⟨m',e1,by simpa using e2⟩
  | A u v =>
   have hnt:¬ tk n (A u v) < (n:Int):=fun h=>by obtain ⟨w,e⟩:=(tk_lt ht).1 h;cases e
   rw [decide_eq_false hnt,cond_false,w64s (by omega)]
   obtain ⟨m',e1,e2⟩:=ih (j+1) fuel (m.set (tk n (A u v)) (w64 ((m.get? (tk n (A u v))).getD 0+1))) seen hdr.2.symm (by omega) (by omega) (by
    intro w hw
    rw [get_set,if_neg (by omega)]
    exact hm w hw) (by simpa using hn)
   exact ⟨m',e1,by simpa using e2⟩
theorem r18_L2 {n : Nat} {ls : List Tok} {a0 : Fo} {v4 : Int} (ha : a0.n = (n : Int)) (hok : ∀ t ∈ ls, okT n t) (hll : ls.length < 900) :
    ∀ (rest:List Tok) (j fuel:Nat) (l2:List Bool) (seen:List Nat),ls.drop j=rest→j+rest.length=ls.length→rest.length < fuel→MtB n l2 seen→(seen++vs rest).Nodup→seen.length+rest.length < 100000 →
     ∃ l2',p_dq KK a0 fuel v4 (seen.length:Int) (er n ls) (j:Int) l2=some (.inl (v4,((seen++vs rest).length:Int),l2'))∧MtB n l2' (seen++vs rest):=by
 intro rest
 induction rest with
 | nil =>
  intro j fuel m seen hd hj hf hm _ _
  obtain ⟨fuel,rfl⟩:∃ k,fuel=k+1:=⟨fuel - 1,by simp at hf;omega⟩
  simp at hj
  unfold p_dq
  rw [show (er n ls).length=ls.length by simp [er],ltF (by omega),cond_false]
  exact ⟨m,by simp,by simpa using hm⟩
 | cons t rest ih =>
  intro j fuel m seen hd hj hf hm hn hsm
  obtain ⟨fuel,rfl⟩:∃ k,fuel=k+1:=⟨fuel - 1,by simp at hf;omega⟩
  simp only [List.length_cons] at hj hf hsm
  have hlt:j < ls.length:=by omega
  have hdr:=List.drop_eq_getElem_cons hlt
  rw [hd] at hdr
  simp only [List.cons.injEq] at hdr
  have hg:ls[j]? = some t:=by rw [List.getElem?_eq_getElem hlt,hdr.1]
  have ht:okT n t:=hok t (List.mem_of_getElem? hg)
  unfold p_dq
  rw [show (er n ls).length=ls.length by simp [er],ltT hlt,cond_true,ixN (er_get hg),ha]
  cases t with
  | V v =>
   simp only [okT] at ht
   simp only [vs_V] at hn
   have hv:v ∉ seen:=fun h=>(List.nodup_append.1 hn).2.2 v h v (by simp) rfl
   have hmv:=hm.get v ht
   rw [decide_eq_false hv] at hmv
   have hml:=hm.len
   rw [ixN (er_get hg),ixN (er_get hg),show tk n (V v)=(v:Int) from rfl,ltT ht,cond_true,bdN (by omega),gtN hmv,cond_false,bdN (by omega),gtN hmv,w64s (by omega),w64s (by omega)]
   obtain ⟨m',e1,e2⟩:=ih (j+1) fuel (m.set v true) (seen++[v]) hdr.2.symm (by omega) (by omega) ⟨by simp [hml],by
    intro w hw
    by_cases e:w=v
    ·subst e;rw [List.getElem?_set_self (by omega)];simp
    ·rw [List.getElem?_set_ne (Ne.symm e),hm.get w hw];simp [e]⟩ (by simpa using hn) (by simp;omega)
   refine ⟨m',?_,by simpa using e2⟩
   simpa using e1
  | A u v =>
   have hnt:¬ tk n (A u v) < (n:Int):=fun h=>by obtain ⟨w,e⟩:=(tk_lt ht).1 h;cases e
   rw [decide_eq_false hnt,cond_false,w64s (by omega)]
   obtain ⟨m',e1,e2⟩:=ih (j+1) fuel m seen hdr.2.symm (by omega) (by omega) hm (by simpa using hn) (by omega)
   exact ⟨m',e1,by simpa using e2⟩
theorem tour_L1 {n : Nat} {f : List (List Tok)} (h1 : 1 ≤ n) (hn : n ≤ 64) (hg : ∀ r ∈ f, ArForest.Good n r) (hfl : f.length < 900) :
    ∀ (rest:List (List Tok)) (j fuel:Nat) (last:Int) (m:Mp Int Int) (seen:List Nat),f.drop j=rest→j+rest.length=f.length→rest.length < fuel→(∀ r∈rest,last < ((ArForest.least n r:Nat):Int)) →
     rest.Pairwise (fun a b=>ArForest.least n a < ArForest.least n b)→MtM n m seen→(seen++rest.flatMap vs).Nodup →
     ∃ m',p_cC KK ⟨n,ef n f⟩ fuel last (j:Int) m=some (.inl m')∧MtM n m' (seen++rest.flatMap vs):=by
 intro rest
 induction rest with
 | nil =>
  intro j fuel last m seen hd hj hf _ _ hm _
  obtain ⟨fuel,rfl⟩:∃ k,fuel=k+1:=⟨fuel - 1,by simp at hf;omega⟩
  simp at hj
  unfold p_cC
  simp only [show (ef n f).length=f.length by simp [ef],ltF (show f.length≤j by omega),cond_false]
  exact ⟨m,rfl,by simpa using hm⟩
 | cons r rest ih =>
  intro j fuel last m seen hd hj hf hlast hpw hm hnd
  obtain ⟨fuel,rfl⟩:∃ k,fuel=k+1:=⟨fuel - 1,by simp at hf;omega⟩
  simp only [List.length_cons] at hj hf
  have hlt:j < f.length:=by omega
  have hdr:=List.drop_eq_getElem_cons hlt
  rw [hd] at hdr
  simp only [List.cons.injEq] at hdr
  have hgj:f[j]? = some r:=by rw [List.getElem?_eq_getElem hlt,hdr.1]
  have hr:=hg r (List.mem_of_getElem? hgj)
  have hge:(ef n f)[j]? = some (er n r):=by simp [ef,hgj]
  have hRn:Rn n r:=⟨hr.ring,hr.nodup,hr.lt⟩
  have hlen:=hRn.len
  obtain ⟨⟨tl,eh⟩,emn⟩:=good_head hr
  have hx:∀ {β:Type} (k:Int→Option β),ixP (er n r) 0 k=k ((ArForest.least n r:Nat):Int):=fun k=>by rw [eh];exact ix0
  have hel:(er n r).length=r.length:=by simp [er]
  have hla:=hlast r (by simp)
  unfold p_cC
  simp only [show (ef n f).length=f.length by simp [ef],ltT hlt,cond_true,ixN hge,hx]
  rw [show (((er n r).length:Int) == 0)=false by rw [hel];simp only [beq_eq_false_iff_ne];omega,cond_false,decide_eq_false (p:=((ArForest.least n r:Nat):Int)≤last) (by omega),cond_false,ring_Right (good_rg hn hr)]
  simp only [Option.bind_some,Bool.not_true,cond_false]
  have hmin:p_W KK (er n r)=some ((ArForest.least n r:Nat):Int):=by
   have:=min_L1 (y:=((ArForest.least n r:Nat):Int)) (l:=tl) (by rw [← eh,hel];omega)
   rw [← eh,emn] at this;exact this
  rw [hmin]
  simp only [Option.bind_some]
  rw [show (((ArForest.least n r:Nat):Int) != ((ArForest.least n r:Nat):Int))=false by simp,cond_false,tour_goes h1 hn hr]
  simp only [Option.bind_some,Bool.not_true,cond_false]
  rw [List.flatMap_cons,← List.append_assoc] at hnd
  obtain ⟨m',e1,e2⟩:=tour_L2 (a0:=⟨n,ef n f⟩) (v4:=((ArForest.least n r:Nat):Int)) rfl hRn.ok (by omega) r 0 KK m seen rfl (by simp) (by show _ < 1000;omega) hm (List.nodup_append.1 hnd).1
  rw [hel,show (0:Int)=((0:Nat):Int) from rfl,e1]
  simp only [Option.bind_some]
  rw [w64s (by omega)]
  obtain ⟨hp1,hp2⟩:=List.pairwise_cons.1 hpw
  obtain ⟨m'',d1,d2⟩:=ih (j+1) fuel ((ArForest.least n r:Nat):Int) m' (seen++vs r) hdr.2.symm (by omega) (by omega) (fun r' hr'=>by have:=hp1 r' hr';omega) hp2 e2 hnd
  exact ⟨m'',d1,by rw [List.flatMap_cons,← List.append_assoc];exact d2⟩
theorem wf_len {n:Nat}{f:List (List Tok)} (h:Wf n f):f.length≤n:=by
 have h1:=h.all.length_eq
 simp only [List.length_flatMap,List.length_range] at h1
 rw [← h1]
 have:∀ g:List (List Tok),(∀ r∈g,ArForest.Good n r)→g.length≤(g.map fun r=>(vs r).length).sum:=by
  intro g
  induction g with
  | nil=>simp
  | cons r g ih =>
   intro hg
   have:=ih fun r hr=>hg r (by simp [hr])
   have h2:(vs r).length≠0:=fun e=>ArForest.Ring.vs_ne (hg r (by simp)).ring (List.length_eq_zero_iff.1 e)
   simp only [List.length_cons,List.map_cons,List.sum_cons];omega
 exact this f h.good
theorem tour_Right {n:Nat}{f:List (List Tok)} (h1:1≤n) (hn:n≤64) (h:Wf n f):p_dt KK ⟨n,ef n f⟩=some true:=by
 have hfl:=wf_len h
 obtain ⟨m',e1,e2⟩:=tour_L1 h1 hn h.good (by omega) f 0 KK (-1) Mp.empty [] rfl (by simp) (by show _ < 1000;omega) (fun r _=>by omega) h.sorted (by intro v _;simp [Mp.get?,Mp.empty]) (by simpa using h.all.nodup_iff.2 List.nodup_range)
 unfold p_dt
 simp only [tour_sized h1 hn,Option.bind_some,Bool.not_true,cond_false]
 rw [show (0:Int)=((0:Nat):Int) from rfl,e1]
 simp only [Option.bind_some]
 have:=loopC (σ:=Unit) (ρ:=Sum Unit Bool) n (fun k j _=>p_cD KK ⟨n,ef n f⟩ m' k (j:Int)) (fun _ _=>some (.inl ())) (fun _ _=>True)
  (fun k s _=>by simp only [p_cD,ltF (Nat.le_refl _),cond_false])
  (fun k j s _ hj ih=>by
   have hmem:j∈([]:List Nat)++f.flatMap vs:=by simpa using h.all.mem_iff.2 (by simpa using hj)
   simp only [p_cD,ltT hj,cond_true,e2 j hj,if_pos hmem]
   rw [show ((1:Int) == 0)=false from rfl,cond_false,w64s (by omega)]
   exact ih () trivial)
  (j:=0) (n:=KK) (s:=()) (Nat.zero_le _) (by show _ < 1000;omega) trivial
 rw [this];rfl
theorem r18_L1 {n : Nat} {f : List (List Tok)} (h1 : 1 ≤ n) (hn : n ≤ 64) (hg : ∀ r ∈ f, ArForest.Good n r) (hfl : f.length < 900) :
    ∀ (rest:List (List Tok)) (j fuel:Nat) (last:Int) (m:List Bool) (seen:List Nat),f.drop j=rest→j+rest.length=f.length→rest.length < fuel→(∀ r∈rest,last < ((ArForest.least n r:Nat):Int)) →
     rest.Pairwise (fun a b=>ArForest.least n a < ArForest.least n b)→MtB n m seen→(seen++rest.flatMap vs).Nodup→(∀ v∈seen,v < n) →
     p_d3 KK ⟨n,ef n f⟩ fuel last (seen.length:Int) (j:Int) m=some (.inl ((seen++rest.flatMap vs).length:Int)):=by
 intro rest
 induction rest with
 | nil =>
  intro j fuel last m seen hd hj hf _ _ hm _ _
  obtain ⟨fuel,rfl⟩:∃ k,fuel=k+1:=⟨fuel - 1,by simp at hf;omega⟩
  simp at hj
  unfold p_d3
  simp only [show (ef n f).length=f.length by simp [ef],ltF (show f.length≤j by omega),cond_false]
  simp
 | cons r rest ih =>
  intro j fuel last m seen hd hj hf hlast hpw hm hnd hsn
  obtain ⟨fuel,rfl⟩:∃ k,fuel=k+1:=⟨fuel - 1,by simp at hf;omega⟩
  simp only [List.length_cons] at hj hf
  have hlt:j < f.length:=by omega
  have hdr:=List.drop_eq_getElem_cons hlt
  rw [hd] at hdr
  simp only [List.cons.injEq] at hdr
  have hgj:f[j]? = some r:=by rw [List.getElem?_eq_getElem hlt,hdr.1]
  have hr:=hg r (List.mem_of_getElem? hgj)
  have hge:(ef n f)[j]? = some (er n r):=by simp [ef,hgj]
  have hRn:Rn n r:=⟨hr.ring,hr.nodup,hr.lt⟩
  have hlen:=hRn.len
  obtain ⟨⟨tl,eh⟩,emn⟩:=good_head hr
  have hx:∀ {β:Type} (k:Int→Option β),ixP (er n r) 0 k=k ((ArForest.least n r:Nat):Int):=fun k=>by rw [eh];exact ix0
  have hel:(er n r).length=r.length:=by simp [er]
  have hla:=hlast r (by simp)
  have hrg:=good_rg hn hr
  have hpl:p_ew KK (er n r)=some (er n r):=by
   rw [r13_Plain hrg eh (by rw [emn,eh];simp),emn]
   congr 1
   rw [eh];exact trn_head
  unfold p_d3
  simp only [show (ef n f).length=f.length by simp [ef],ltT hlt,cond_true,ixN hge,hx,r13_Right hrg,Option.bind_some,Bool.not_true,cond_false]
  rw [show (((er n r).length:Int) == 0)=false by rw [hel];simp only [beq_eq_false_iff_ne];omega,cond_false,r18_tree h1 hn hRn]
  simp only [Option.bind_some,Bool.not_true,cond_false,hpl]
  rw [r14_Lists (by simp) (by simp [hel];omega)]
  simp only [Option.bind_some,Bool.not_true,cond_false]
  rw [decide_eq_false (p:=((ArForest.least n r:Nat):Int)≤last) (by omega),cond_false]
  rw [List.flatMap_cons,← List.append_assoc] at hnd
  have hsl:seen.length≤n:=lt_len (List.nodup_append.1 (List.nodup_append.1 hnd).1).1 hsn
  obtain ⟨m',e1,e2⟩:=r18_L2 (a0:=⟨n,ef n f⟩) (v4:=((ArForest.least n r:Nat):Int)) rfl hRn.ok (by omega) r 0 KK m seen rfl (by simp) (by show _ < 1000;omega) hm (List.nodup_append.1 hnd).1 (by omega)
  rw [show (0:Int)=((0:Nat):Int) from rfl,e1]
  simp only [Option.bind_some]
  rw [w64s (by omega)]
  obtain ⟨hp1,hp2⟩:=List.pairwise_cons.1 hpw
  have:=ih (j+1) fuel ((ArForest.least n r:Nat):Int) m' (seen++vs r) hdr.2.symm (by omega) (by omega) (fun r' hr'=>by have:=hp1 r' hr';omega) hp2 e2 hnd (by
   intro v hv
   rcases List.mem_append.1 hv with hv | hv
   ·exact hsn v hv
   ·exact hr.lt v hv)
  rw [this,List.flatMap_cons,← List.append_assoc]
theorem r18_Right {n:Nat}{f:List (List Tok)} (h1:1≤n) (hn:n≤64) (h:Wf n f):p_e6 KK ⟨n,ef n f⟩=some true:=by
 have hfl:=wf_len h
 have e1:=r18_L1 h1 hn h.good (by omega) f 0 KK (-1) (List.replicate n false) [] rfl (by simp) (by show _ < 1000;omega) (fun r _=>by omega) h.sorted ⟨by simp,fun v hv=>by simp [hv]⟩ (by simpa using h.all.nodup_iff.2 List.nodup_range) (by simp)
 unfold p_e6
 simp only []
 rw [decide_eq_false (p:=(n:Int) < 1) (by omega),cond_false,decide_eq_false (p:=(n:Int) > 64) (by omega),cond_false,decide_eq_false (p:=((ef n f).length:Int) > (n:Int)) (by simp [ef];omega),cond_false,mkN (by omega) (by omega)]
 simp only [List.length_nil] at e1
 rw [show (0:Int)=((0:Nat):Int) from rfl,e1]
 simp only [Option.bind_some,List.nil_append,h.all.length_eq,List.length_range]
 simp
end Go.Ar.Mm
