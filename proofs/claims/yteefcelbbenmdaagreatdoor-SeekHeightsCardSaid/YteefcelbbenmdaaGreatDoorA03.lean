import Derived.Test.YteefcelbbenmdaaGreatDoorA02
set_option linter.all false
namespace Go.Ar
open Go.RowKit
def p_p (K:Nat) (a2:Int) (l0_7:(List Ed)) (a3:(Ed→Ed→Option Int)):Nat→Int→Option Int
 | 0,_=>none
 | n+1,v9_1=>(bif (decide (v9_1 < a2)) then (bdP l0_7.length v9_1 fun i1=>gtP l0_7 i1 fun v2=>(bdP l0_7.length (w64 (v9_1 - 1)) fun i3=>gtP l0_7 i3 fun v4=>((a3 v2 v4).bind fun r5=>(bif (!(decide (r5 < 0))) then p_p K a2 l0_7 a3 n (w64 (v9_1+1)) else some v9_1)))) else some v9_1)
def p_q (K:Nat) (a3:(Ed→Ed→Option Int)):Nat→Int→(List Ed)→Option (List Ed)
 | 0,_,_=>none
 | n+1,v11_3,l0_3=>(bif (decide (v11_3≥1)) then (bdP l0_3.length v11_3 fun i14=>gtP l0_3 i14 fun v15=>(bdP l0_3.length (w64 (v11_3 - 1)) fun i16=>gtP l0_3 i16 fun v17=>((a3 v15 v17).bind fun r18=>(bif (!(decide (r18 < 0))) then some l0_3 else (bdP l0_3.length (w64 (v11_3 - 1)) fun i19=>gtP l0_3 i19 fun v20=>(bdP l0_3.length v11_3 fun i21=>gtP l0_3 i21 fun v22=>(bdP l0_3.length v11_3 fun i23=>gtP l0_3 i23 fun v24=>(bdP l0_3.length (w64 (v11_3 - 1)) fun i25=>gtP (l0_3.set i23 v20) i25 fun v26=>p_q K a3 n (w64 (v11_3 - 1)) ((l0_3.set i23 v20).set i25 v22))))))))) else some l0_3)
def p_r (K:Nat) (a2:Int) (a3:(Ed→Ed→Option Int)) (v9_2:Int):Nat→Int→(List Ed)→Option (Sum (Int × (List Ed)) (Sum (List Ed) (Bool × (List Ed))))
 | 0,_,_=>none
 | n+1,v12_5,l0_5=>(bif (decide (v12_5 < a2)) then (bdP l0_5.length v12_5 fun i27=>gtP l0_5 i27 fun v28=>(bdP l0_5.length (w64 (v12_5 - 1)) fun i29=>gtP l0_5 i29 fun v30=>((a3 v28 v30).bind fun r31=>(bif (!(decide (r31 < 0))) then some (.inl (v9_2,l0_5)) else (bdP l0_5.length (w64 (v12_5 - 1)) fun i32=>gtP l0_5 i32 fun v33=>(bdP l0_5.length v12_5 fun i34=>gtP l0_5 i34 fun v35=>(bdP l0_5.length v12_5 fun i36=>gtP l0_5 i36 fun v37=>(bdP l0_5.length (w64 (v12_5 - 1)) fun i38=>gtP (l0_5.set i36 v33) i38 fun v39=>p_r K a2 a3 v9_2 n (w64 (v12_5+1)) ((l0_5.set i36 v33).set i38 v35))))))))) else some (.inl (v9_2,l0_5)))
def p_s (K:Nat) (a2:Int) (a3:(Ed→Ed→Option Int)) (a1:Int):Nat→Int→Int→(List Ed)→Option (Sum (List Ed) (Bool × (List Ed)))
 | 0,_,_,_=>none
 | n+1,v9_7,v10_7,l0_7=>(bif (decide (v10_7 < 5)) then ((((p_p K a2 l0_7 a3 K v9_7:Option Int).bind fun v9_2=>(bif (v9_2 == a2) then some (.inr (.inr (true,l0_7))) else (bif (decide ((w64 (a2 - a1)) < 50)) then some (.inr (.inr (false,l0_7))) else (bdP l0_7.length (w64 (v9_2 - 1)) fun i6=>gtP l0_7 i6 fun v7=>(bdP l0_7.length v9_2 fun i8=>gtP l0_7 i8 fun v9=>(bdP l0_7.length v9_2 fun i10=>gtP l0_7 i10 fun v11=>(bdP l0_7.length (w64 (v9_2 - 1)) fun i12=>gtP (l0_7.set i10 v7) i12 fun v13=>(((bif (decide ((w64 (v9_2 - a1))≥2)) then p_q K a3 K (w64 (v9_2 - 1)) ((l0_7.set i10 v7).set i12 v9) else some ((l0_7.set i10 v7).set i12 v9)):Option (List Ed)).bind fun l0_4=>(bif (decide ((w64 (a2 - v9_2))≥2)) then p_r K a2 a3 v9_2 K (w64 (v9_2+1)) l0_4 else some (.inl (v9_2,l0_4))))))))))):Option (Sum (Int × (List Ed)) (Sum (List Ed) (Bool × (List Ed))))).bind fun | .inl (v9_6,l0_6)=>p_s K a2 a3 a1 n v9_6 (w64 (v10_7+1)) l0_6 | .inr r=>some r) else some (.inl l0_7))
def p_be (K:Nat) (a0:(List Ed)) (a1:Int) (a2:Int) (a3:(Ed→Ed→Option Int)):Option (Bool × (List Ed)) :=
 ((p_s K a2 a3 a1 K (w64 (a1+1)) 0 a0:Option (Sum (List Ed) (Bool × (List Ed)))).bind fun | .inl l0_8=>some (false,l0_8) | .inr r=>some r)
theorem w_dO {K:Nat}{a0:(List Ed)}{a1:Int}{a2:Int}{a3:(Ed→Ed→Option Int)}{y:(Bool × (List Ed))}{a3f:FuncId}{a3s a3c:List AV} (a3h:∀ {x0:Ed}{x1:Ed}{r:Int},a3 x0 x1=some r→Does PP GV a3f [] (a3s++[(EdA x0),(EdA x1)]++a3c) [] [] (I r)) (a3k:callable PP a3f=true) (a3l:a3s.all flat=true∧a3c.all flat=true) (a3p:PuL a3s) (a3q:PuL a3c) (hy:p_be K a0 a1 a2 a3=some y):Does PP GV 107 [.buf 2 (a0.map EdA)] [.own 0 0 2 0 a0.length false,(I a1),(I a2),.fn (.func a3f) a3s a3c] [0] [.buf 2 (y.2.map EdA)] (B y.1):=by
 unfold p_be at hy
 refine does_of at107 r (le_ok r)<|?_
 rintro ⟨_,base,w0,F⟩ rfl
 refine rg r<|rg r<|bkH hy fun o1 hy k1 hk1 hc1=>meetD [] [] r r (fun (p:(List Ed))=>match p with | l0_8=>([(0,.own 0 0 2 0 (l0_8).length false)],[(0,some (0,.buf 2 (l0_8.map EdA)))],k1 (.inl l0_8)=some y)) ?_ ?_
 ·skip
  refine rg r<|at_block<|loopD [1,2,3] [] r r (fun (p:Nat × Int × Int × (List Ed))=>match p with | (n2,v9_7,v10_7,l0_7)=>([(0,.own 0 0 2 0 (l0_7).length false),(9,(I v9_7)),(10,(I v10_7))],[(0,some (0,.buf 2 (l0_7.map EdA)))],p_s K a2 a3 a1 n2 v9_7 v10_7 l0_7=some o1)) (K,(w64 (a1+1)),0,a0) (lk r) (hk r) hy<|?_
  rintro ⟨n2,v9_7,v10_7,l0_7⟩ cl hy
  obtain _ | n2:=n2;· cases hy
  refine nf r r<|?_
  replace hy:_=some _:=hy
  rw [p_s] at hy
  refine at_seq<|rg r<|cdH r hy (fun hy=>?_) fun hy=>?_
  ·refine at_skip<|bkH hy fun o3 hy k3 hk3 hc3=>meetD [1,2,3,10] [] r r (fun (p:Int × (List Ed))=>match p with | (v9_6,l0_6)=>([(0,.own 0 0 2 0 (l0_6).length false),(9,(I v9_6))],[(0,some (0,.buf 2 (l0_6.map EdA)))],k3 (.inl (v9_6,l0_6))=some o1)) ?_ ?_
   ·skip
    refine at_block<|bkH hy fun o4 hy k4 hk4 hc4=>meetD [0,1,2,3,10] [0] r r (fun (p:Int)=>match p with | v9_2=>([(9,(I v9_2))],[],k4 v9_2=some o3)) ?_ ?_
    ·skip
     refine at_block<|loopD [0,1,2,3,10] [0] r r (fun (p:Nat × Int)=>match p with | (n5,v9_1)=>([(9,(I v9_1))],[],p_p K a2 l0_7 a3 n5 v9_1=some o4)) (K,v9_7) (lk r) .nil hy<|?_
     rintro ⟨n5,v9_1⟩ cl hy
     obtain _ | n5:=n5;· cases hy
     refine nf r r<|?_
     replace hy:_=some _:=hy
     rw [p_p] at hy
     refine at_seq<|regd mixed 18 r<|go 4 r<|casH 22 r hy (fun hy=>?_) fun hy=>?_
     ·refine go 3 r<|bdH hy fun i1 qi1 bi1 hy=>gtH hy fun v2 xv2 hy=>ixP' sl41 qi1 bi1 r r r r<|ldP (f:=EdA) tk47 xv2 r r r r r<|go 3 r<|bdH hy fun i3 qi3 bi3 hy=>gtH hy fun v4 xv4 hy=>ixP' sl41 qi3 bi3 r r r r<|ldP (f:=EdA) tk47 xv4 r r r r r<|bndH hy fun r5 qr5 hy=>clv (a3h qr5) a3k r r r r a3l (puL3 a3p (.cons (pu_Ed _) (.cons (pu_Ed _) (.nil))) a3q) (.one (pu_I _)) r<|go 3 r<|dn ⟨by kernel_rfl,?_⟩
      refine cdH r hy (fun hy=>?_) fun hy=>?_
      ·refine at_skip<|at_block<|rg1 r<|at_bn<|againD (n5,(w64 (v9_1+1))) (lk r) .nil r r hy r
      ·exact at_exit<|at_te<|at_te<|at_inBlock<|metD v9_1 (lk r) .nil r r (sj2 hy hc4)
     ·refine go 14 r<|dn ⟨by kernel_rfl,?_⟩
      exact cdf r<|at_exit<|at_te<|at_te<|at_inBlock<|metD v9_1 (lk r) .nil r r (sj2 hy hc4)
    ·rintro v9_2 cl hy
     subst hk4
     refine nf r r<|at_seq<|rg r<|cdH r hy (fun hy=>?_) fun hy=>?_
     ·refine rg r<|at_ret<|?_
      obtain rfl:=sj hy
      subst hk3;obtain rfl:=sj hc3
      subst hk1;obtain rfl:=sj hc1
      exact outO1 (g1:=EdA) r (.inl r) r (pu_B _) r pu_Ed
     ·refine at_skip<|at_seq<|rg r<|cdH r hy (fun hy=>?_) fun hy=>?_
      ·refine rg r<|at_ret<|?_
       obtain rfl:=sj hy
       subst hk3;obtain rfl:=sj hc3
       subst hk1;obtain rfl:=sj hc1
       exact outO1 (g1:=EdA) r (.inl r) r (pu_B _) r pu_Ed
      ·refine at_skip<|regd mixed 18 r<|go 8 r<|bdH hy fun i6 qi6 bi6 hy=>gtH hy fun v7 xv7 hy=>ixP' sl41 qi6 bi6 r r r r<|ldP (f:=EdA) tk47 xv7 r r r r r<|go 2 r<|bdH hy fun i8 qi8 bi8 hy=>gtH hy fun v9 xv9 hy=>ixP' sl41 qi8 bi8 r r r r<|ldP (f:=EdA) tk47 xv9 r r r r r<|bdH hy fun i10 qi10 bi10 hy=>gtH hy fun v11 xv11 hy=>ixP' sl41 qi10 bi10 r r r r<|stP (f:=EdA) (v7) tk47 xv11 r r r r r r<|bdH hy fun i12 qi12 bi12 hy=>gtH hy fun v13 xv13 hy=>ixP' sl41 qi12 bi12 r r r r<|stP (f:=EdA) (v9) tk47 xv13 r r r r r r<|dn ⟨by kernel_rfl,?_⟩
       refine bkH hy fun o6 hy k6 hk6 hc6=>meetD [1,2,3,9,10] [] r r (fun (p:(List Ed))=>match p with | l0_4=>([(0,.own 0 0 2 0 (l0_4).length false)],[(0,some (0,.buf 2 (l0_4.map EdA)))],k6 l0_4=some o3)) ?_ ?_
       ·skip
        refine rg r<|cdH r hy (fun hy=>?_) fun hy=>?_
        ·refine rg r<|at_block<|loopD [1,2,3,9,10] [] r r (fun (p:Nat × Int × (List Ed))=>match p with | (n7,v11_3,l0_3)=>([(0,.own 0 0 2 0 (l0_3).length false),(11,(I v11_3))],[(0,some (0,.buf 2 (l0_3.map EdA)))],p_q K a3 n7 v11_3 l0_3=some o6)) (K,(w64 (v9_2 - 1)),((l0_7.set i10 v7).set i12 v9)) (.k r (by simp) (.j r .nil)) (hk r) hy<|?_
         rintro ⟨n7,v11_3,l0_3⟩ cl hy
         obtain _ | n7:=n7;· cases hy
         refine nf r r<|?_
         replace hy:_=some _:=hy
         rw [p_q] at hy
         refine at_seq<|rg r<|cdH r hy (fun hy=>?_) fun hy=>?_
         ·refine at_skip<|at_seq<|at_block<|at_seq<|regd mixed 13 r<|go 3 r<|bdH hy fun i14 qi14 bi14 hy=>gtH hy fun v15 xv15 hy=>ixP' sl41 qi14 bi14 r r r r<|ldP (f:=EdA) tk47 xv15 r r r r r<|go 3 r<|bdH hy fun i16 qi16 bi16 hy=>gtH hy fun v17 xv17 hy=>ixP' sl41 qi16 bi16 r r r r<|ldP (f:=EdA) tk47 xv17 r r r r r<|bndH hy fun r18 qr18 hy=>clv (a3h qr18) a3k r r r r a3l (puL3 a3p (.cons (pu_Ed _) (.cons (pu_Ed _) (.nil))) a3q) (.one (pu_I _)) r<|go 2 r<|dn ⟨by kernel_rfl,?_⟩
          refine cdH r hy (fun hy=>?_) fun hy=>?_
          ·exact at_exit<|at_te<|at_outBlock (by decide)<|at_te<|at_te<|at_inBlock<|metD l0_3 (lk r) (hk r) r r (sj2 hy hc6)
          ·refine at_skip<|regd1 mixed 18 r<|go 8 r<|bdH hy fun i19 qi19 bi19 hy=>gtH hy fun v20 xv20 hy=>ixP' sl41 qi19 bi19 r r r r<|ldP (f:=EdA) tk47 xv20 r r r r r<|go 2 r<|bdH hy fun i21 qi21 bi21 hy=>gtH hy fun v22 xv22 hy=>ixP' sl41 qi21 bi21 r r r r<|ldP (f:=EdA) tk47 xv22 r r r r r<|bdH hy fun i23 qi23 bi23 hy=>gtH hy fun v24 xv24 hy=>ixP' sl41 qi23 bi23 r r r r<|stP (f:=EdA) (v20) tk47 xv24 r r r r r r<|bdH hy fun i25 qi25 bi25 hy=>gtH hy fun v26 xv26 hy=>ixP' sl41 qi25 bi25 r r r r<|stP (f:=EdA) (v22) tk47 xv26 r r r r r r<|dn ⟨by kernel_rfl,?_⟩
           refine at_bn<|rg1 r<|againD (n7,(w64 (v11_3 - 1)),((l0_3.set i23 v20).set i25 v22)) (.k r (by simp) (.j r .nil)) (hk r) r r hy r
         ·exact at_exit<|at_te<|at_te<|at_inBlock<|metD l0_3 (lk r) (hk r) r r (sj2 hy hc6)
        ·exact at_skip<|metD ((l0_7.set i10 v7).set i12 v9) (.k r (by simp) .nil) (hk r) r r (sj2 hy hc6)
       ·rintro l0_4 cl hy
        subst hk6
        refine nf r r<|rg r<|cdH r hy (fun hy=>?_) fun hy=>?_
        ·refine rg r<|at_block<|loopD [1,2,3,9,10] [] r r (fun (p:Nat × Int × (List Ed))=>match p with | (n8,v12_5,l0_5)=>([(0,.own 0 0 2 0 (l0_5).length false),(12,(I v12_5))],[(0,some (0,.buf 2 (l0_5.map EdA)))],p_r K a2 a3 v9_2 n8 v12_5 l0_5=some o3)) (K,(w64 (v9_2+1)),l0_4) (lk r) (hk r) hy<|?_
         rintro ⟨n8,v12_5,l0_5⟩ cl hy
         obtain _ | n8:=n8;· cases hy
         refine nf r r<|?_
         replace hy:_=some _:=hy
         rw [p_r] at hy
         refine at_seq<|rg r<|cdH r hy (fun hy=>?_) fun hy=>?_
         ·refine at_skip<|at_seq<|at_block<|at_seq<|regd mixed 13 r<|go 3 r<|bdH hy fun i27 qi27 bi27 hy=>gtH hy fun v28 xv28 hy=>ixP' sl41 qi27 bi27 r r r r<|ldP (f:=EdA) tk47 xv28 r r r r r<|go 3 r<|bdH hy fun i29 qi29 bi29 hy=>gtH hy fun v30 xv30 hy=>ixP' sl41 qi29 bi29 r r r r<|ldP (f:=EdA) tk47 xv30 r r r r r<|bndH hy fun r31 qr31 hy=>clv (a3h qr31) a3k r r r r a3l (puL3 a3p (.cons (pu_Ed _) (.cons (pu_Ed _) (.nil))) a3q) (.one (pu_I _)) r<|go 2 r<|dn ⟨by kernel_rfl,?_⟩
          refine cdH r hy (fun hy=>?_) fun hy=>?_
          ·exact at_exit<|at_te<|at_outBlock (by decide)<|at_te<|at_te<|at_inBlock<|at_bn<|metD (v9_2,l0_5) (lk r) (hk r) r r (sj2 hy hc3)
          ·refine at_skip<|regd1 mixed 18 r<|go 8 r<|bdH hy fun i32 qi32 bi32 hy=>gtH hy fun v33 xv33 hy=>ixP' sl41 qi32 bi32 r r r r<|ldP (f:=EdA) tk47 xv33 r r r r r<|go 2 r<|bdH hy fun i34 qi34 bi34 hy=>gtH hy fun v35 xv35 hy=>ixP' sl41 qi34 bi34 r r r r<|ldP (f:=EdA) tk47 xv35 r r r r r<|bdH hy fun i36 qi36 bi36 hy=>gtH hy fun v37 xv37 hy=>ixP' sl41 qi36 bi36 r r r r<|stP (f:=EdA) (v33) tk47 xv37 r r r r r r<|bdH hy fun i38 qi38 bi38 hy=>gtH hy fun v39 xv39 hy=>ixP' sl41 qi38 bi38 r r r r<|stP (f:=EdA) (v35) tk47 xv39 r r r r r r<|dn ⟨by kernel_rfl,?_⟩
           refine at_bn<|rg1 r<|againD (n8,(w64 (v12_5+1)),((l0_5.set i36 v33).set i38 v35)) (.k r (by simp) (.j r .nil)) (hk r) r r hy r
         ·exact at_exit<|at_te<|at_te<|at_inBlock<|at_bn<|metD (v9_2,l0_5) (lk r) (hk r) r r (sj2 hy hc3)
        ·exact at_skip<|at_bn<|metD (v9_2,l0_4) (lk r) (hk r) r r (sj2 hy hc3)
   ·rintro ⟨v9_6,l0_6⟩ cl hy
    subst hk3
    refine nf r r<|rg1 r<|againD (n2,v9_6,(w64 (v10_7+1)),l0_6) (lk r) (hk r) r r hy r
  ·exact at_exit<|at_te<|at_te<|at_inBlock<|metD l0_7 (lk r) (hk r) r r (sj2 hy hc1)
 ·rintro l0_8 cl hy
  subst hk1
  refine nf r r<|rg r<|at_ret<|?_
  obtain rfl:=sj hy
  exact outO1 (g1:=EdA) r (.inl r) r (pu_B _) r pu_Ed
def p_Z (K:Nat) (a2:Int) (a1:Int) (a4:(Ed→Ed→Option Int)):Nat→Int→(List Ed)→Option (Int × (List Ed))
 | 0,_,_=>none
 | n+1,v12_1,l0_1=>(bif (decide (v12_1≤(w64 (a2 - 1)))) then (bdP l0_1.length v12_1 fun i9=>gtP l0_1 i9 fun v10=>(bdP l0_1.length a1 fun i11=>gtP l0_1 i11 fun v12=>((a4 v10 v12).bind fun r13=>(bif (decide (r13 < 0)) then p_Z K a2 a1 a4 n (w64 (v12_1+1)) l0_1 else some (v12_1,l0_1))))) else some (v12_1,l0_1))
def p_0 (K:Nat) (v12_2:Int) (l0_2:(List Ed)) (a1:Int) (a4:(Ed→Ed→Option Int)):Nat→Int→Option Int
 | 0,_=>none
 | n+1,v13_3=>(bif (decide (v12_2≤v13_3)) then (bdP l0_2.length v13_3 fun i14=>gtP l0_2 i14 fun v15=>(bdP l0_2.length a1 fun i16=>gtP l0_2 i16 fun v17=>((a4 v15 v17).bind fun r18=>(bif (!(decide (r18 < 0))) then p_0 K v12_2 l0_2 a1 a4 n (w64 (v13_3 - 1)) else some v13_3)))) else some v13_3)
def p_1 (K:Nat) (v13_10:Int) (l0_10:(List Ed)) (a1:Int) (a4:(Ed→Ed→Option Int)):Nat→Int→Option Int
 | 0,_=>none
 | n+1,v12_5=>(bif (decide (v12_5≤v13_10)) then (bdP l0_10.length v12_5 fun i35=>gtP l0_10 i35 fun v36=>(bdP l0_10.length a1 fun i37=>gtP l0_10 i37 fun v38=>((a4 v36 v38).bind fun r39=>(bif (decide (r39 < 0)) then p_1 K v13_10 l0_10 a1 a4 n (w64 (v12_5+1)) else some v12_5)))) else some v12_5)
def p_2 (K:Nat) (v12_6:Int) (l0_10:(List Ed)) (a1:Int) (a4:(Ed→Ed→Option Int)):Nat→Int→Option Int
 | 0,_=>none
 | n+1,v13_7=>(bif (decide (v12_6≤v13_7)) then (bdP l0_10.length v13_7 fun i40=>gtP l0_10 i40 fun v41=>(bdP l0_10.length a1 fun i42=>gtP l0_10 i42 fun v43=>((a4 v41 v43).bind fun r44=>(bif (!(decide (r44 < 0))) then p_2 K v12_6 l0_10 a1 a4 n (w64 (v13_7 - 1)) else some v13_7)))) else some v13_7)
def p_3 (K:Nat) (a1:Int) (a4:(Ed→Ed→Option Int)):Nat→Int→Int→(List Ed)→Option (Int × (List Ed))
 | 0,_,_,_=>none
 | n+1,v12_10,v13_10,l0_10=>((((p_1 K v13_10 l0_10 a1 a4 K v12_10:Option Int).bind fun v12_6=>((p_2 K v12_6 l0_10 a1 a4 K v13_10:Option Int).bind fun v13_8=>(bif (decide (v12_6 > v13_8)) then some (.inr (v13_8,l0_10)) else (bdP l0_10.length v13_8 fun i45=>gtP l0_10 i45 fun v46=>(bdP l0_10.length v12_6 fun i47=>gtP l0_10 i47 fun v48=>(bdP l0_10.length v12_6 fun i49=>gtP l0_10 i49 fun v50=>(bdP l0_10.length v13_8 fun i51=>gtP (l0_10.set i49 v46) i51 fun v52=>some (.inl ((w64 (v12_6+1)),(w64 (v13_8 - 1)),((l0_10.set i49 v46).set i51 v48)))))))))):Option (Sum (Int × Int × (List Ed)) (Int × (List Ed)))).bind fun | .inl (v12_9,v13_9,l0_9)=>p_3 K a1 a4 n v12_9 v13_9 l0_9 | .inr r=>some r)
def p_bl (K:Nat) (a0:(List Ed)) (a1:Int) (a2:Int) (a3:Int) (a4:(Ed→Ed→Option Int)):Option (Int × Bool × (List Ed)) :=
 (bdP a0.length a3 fun i1=>gtP a0 i1 fun v2=>(bdP a0.length a1 fun i3=>gtP a0 i3 fun v4=>(bdP a0.length a1 fun i5=>gtP a0 i5 fun v6=>(bdP a0.length a3 fun i7=>gtP (a0.set i5 v2) i7 fun v8=>((p_Z K a2 a1 a4 K (w64 (a1+1)) ((a0.set i5 v2).set i7 v4):Option (Int × (List Ed))).bind fun (v12_2,l0_2)=>((p_0 K v12_2 l0_2 a1 a4 K (w64 (a2 - 1)):Option Int).bind fun v13_4=>(bif (decide (v12_2 > v13_4)) then (bdP l0_2.length a1 fun i19=>gtP l0_2 i19 fun v20=>(bdP l0_2.length v13_4 fun i21=>gtP l0_2 i21 fun v22=>(bdP l0_2.length v13_4 fun i23=>gtP l0_2 i23 fun v24=>(bdP l0_2.length a1 fun i25=>gtP (l0_2.set i23 v20) i25 fun v26=>some (v13_4,true,((l0_2.set i23 v20).set i25 v22)))))) else (bdP l0_2.length v13_4 fun i27=>gtP l0_2 i27 fun v28=>(bdP l0_2.length v12_2 fun i29=>gtP l0_2 i29 fun v30=>(bdP l0_2.length v12_2 fun i31=>gtP l0_2 i31 fun v32=>(bdP l0_2.length v13_4 fun i33=>gtP (l0_2.set i31 v28) i33 fun v34=>((p_3 K a1 a4 K (w64 (v12_2+1)) (w64 (v13_4 - 1)) ((l0_2.set i31 v28).set i33 v30):Option (Int × (List Ed))).bind fun (v13_11,l0_11)=>(bdP l0_11.length a1 fun i53=>gtP l0_11 i53 fun v54=>(bdP l0_11.length v13_11 fun i55=>gtP l0_11 i55 fun v56=>(bdP l0_11.length v13_11 fun i57=>gtP l0_11 i57 fun v58=>(bdP l0_11.length a1 fun i59=>gtP (l0_11.set i57 v54) i59 fun v60=>some (v13_11,false,((l0_11.set i57 v54).set i59 v56))))))))))))))))))
theorem w_df {K:Nat}{a0:(List Ed)}{a1:Int}{a2:Int}{a3:Int}{a4:(Ed→Ed→Option Int)}{y:(Int × Bool × (List Ed))}{a4f:FuncId}{a4s a4c:List AV} (a4h:∀ {x0:Ed}{x1:Ed}{r:Int},a4 x0 x1=some r→Does PP GV a4f [] (a4s++[(EdA x0),(EdA x1)]++a4c) [] [] (I r)) (a4k:callable PP a4f=true) (a4l:a4s.all flat=true∧a4c.all flat=true) (a4p:PuL a4s) (a4q:PuL a4c) (hy:p_bl K a0 a1 a2 a3 a4=some y):Does PP GV 109 [.buf 2 (a0.map EdA)] [.own 0 0 2 0 a0.length false,(I a1),(I a2),(I a3),.fn (.func a4f) a4s a4c] [0] [.buf 2 (y.2.2.map EdA)] (.tup [(I y.1),(B y.2.1)]):=by
 unfold p_bl at hy
 refine does_of at109 r (le_ok r)<|?_
 rintro ⟨_,base,w0,F⟩ rfl
 refine rg r<|regd mixed 16 r<|go 6 r<|bdH hy fun i1 qi1 bi1 hy=>gtH hy fun v2 xv2 hy=>ixP' sl41 qi1 bi1 r r r r<|ldP (f:=EdA) tk47 xv2 r r r r r<|go 2 r<|bdH hy fun i3 qi3 bi3 hy=>gtH hy fun v4 xv4 hy=>ixP' sl41 qi3 bi3 r r r r<|ldP (f:=EdA) tk47 xv4 r r r r r<|bdH hy fun i5 qi5 bi5 hy=>gtH hy fun v6 xv6 hy=>ixP' sl41 qi5 bi5 r r r r<|stP (f:=EdA) (v2) tk47 xv6 r r r r r r<|bdH hy fun i7 qi7 bi7 hy=>gtH hy fun v8 xv8 hy=>ixP' sl41 qi7 bi7 r r r r<|stP (f:=EdA) (v4) tk47 xv8 r r r r r r<|dn ⟨by kernel_rfl,?_⟩
 refine rg r<|bkH hy fun o1 hy k1 hk1 hc1=>meetD [1,4,13] [] r r (fun (p:Int × (List Ed))=>match p with | (v12_2,l0_2)=>([(0,.own 0 0 2 0 (l0_2).length false),(12,(I v12_2))],[(0,some (0,.buf 2 (l0_2.map EdA)))],k1 (v12_2,l0_2)=some y)) ?_ ?_
 ·skip
  refine at_block<|loopD [1,4,13] [] r r (fun (p:Nat × Int × (List Ed))=>match p with | (n2,v12_1,l0_1)=>([(0,.own 0 0 2 0 (l0_1).length false),(12,(I v12_1))],[(0,some (0,.buf 2 (l0_1.map EdA)))],p_Z K a2 a1 a4 n2 v12_1 l0_1=some o1)) (K,(w64 (a1+1)),((a0.set i5 v2).set i7 v4)) (.k r (by simp) (.j r .nil)) (hk r) hy<|?_
  rintro ⟨n2,v12_1,l0_1⟩ cl hy
  obtain _ | n2:=n2;· cases hy
  refine nf r r<|?_
  replace hy:_=some _:=hy
  rw [p_Z] at hy
  refine at_seq<|regd mixed 16 r<|go 4 r<|casH 35 r hy (fun hy=>?_) fun hy=>?_
  ·refine go 3 r<|bdH hy fun i9 qi9 bi9 hy=>gtH hy fun v10 xv10 hy=>ixP' sl41 qi9 bi9 r r r r<|ldP (f:=EdA) tk47 xv10 r r r r r<|go 2 r<|bdH hy fun i11 qi11 bi11 hy=>gtH hy fun v12 xv12 hy=>ixP' sl41 qi11 bi11 r r r r<|ldP (f:=EdA) tk47 xv12 r r r r r<|bndH hy fun r13 qr13 hy=>clv (a4h qr13) a4k r r r r a4l (puL3 a4p (.cons (pu_Ed _) (.cons (pu_Ed _) (.nil))) a4q) (.one (pu_I _)) r<|go 2 r<|dn ⟨by kernel_rfl,?_⟩
   refine cdH r hy (fun hy=>?_) fun hy=>?_
   ·refine at_skip<|at_block<|rg1 r<|at_bn<|againD (n2,(w64 (v12_1+1)),l0_1) (lk r) (hk r) r r hy r
   ·exact at_exit<|at_te<|at_te<|at_inBlock<|metD (v12_1,l0_1) (lk r) (hk r) r r (sj2 hy hc1)
  ·refine go 12 r<|dn ⟨by kernel_rfl,?_⟩
   exact cdf r<|at_exit<|at_te<|at_te<|at_inBlock<|metD (v12_1,l0_1) (lk r) (hk r) r r (sj2 hy hc1)
 ·rintro ⟨v12_2,l0_2⟩ cl hy
  subst hk1
  refine nf r r<|bkH hy fun o3 hy k3 hk3 hc3=>meetD [0,1,4,12] [0] r r (fun (p:Int)=>match p with | v13_4=>([(13,(I v13_4))],[],k3 v13_4=some y)) ?_ ?_
  ·skip
   refine at_block<|loopD [0,1,4,12] [0] r r (fun (p:Nat × Int)=>match p with | (n4,v13_3)=>([(13,(I v13_3))],[],p_0 K v12_2 l0_2 a1 a4 n4 v13_3=some o3)) (K,(w64 (a2 - 1))) (lk r) .nil hy<|?_
   rintro ⟨n4,v13_3⟩ cl hy
   obtain _ | n4:=n4;· cases hy
   refine nf r r<|?_
   replace hy:_=some _:=hy
   rw [p_0] at hy
   refine at_seq<|regd mixed 17 r<|go 4 r<|casH 53 r hy (fun hy=>?_) fun hy=>?_
   ·refine go 3 r<|bdH hy fun i14 qi14 bi14 hy=>gtH hy fun v15 xv15 hy=>ixP' sl41 qi14 bi14 r r r r<|ldP (f:=EdA) tk47 xv15 r r r r r<|go 2 r<|bdH hy fun i16 qi16 bi16 hy=>gtH hy fun v17 xv17 hy=>ixP' sl41 qi16 bi16 r r r r<|ldP (f:=EdA) tk47 xv17 r r r r r<|bndH hy fun r18 qr18 hy=>clv (a4h qr18) a4k r r r r a4l (puL3 a4p (.cons (pu_Ed _) (.cons (pu_Ed _) (.nil))) a4q) (.one (pu_I _)) r<|go 3 r<|dn ⟨by kernel_rfl,?_⟩
    refine cdH r hy (fun hy=>?_) fun hy=>?_
    ·refine at_skip<|at_block<|rg1 r<|at_bn<|againD (n4,(w64 (v13_3 - 1))) (lk r) .nil r r hy r
    ·exact at_exit<|at_te<|at_te<|at_inBlock<|metD v13_3 (lk r) .nil r r (sj2 hy hc3)
   ·refine go 13 r<|dn ⟨by kernel_rfl,?_⟩
    exact cdf r<|at_exit<|at_te<|at_te<|at_inBlock<|metD v13_3 (lk r) .nil r r (sj2 hy hc3)
  ·rintro v13_4 cl hy
   subst hk3
   refine nf r r<|at_seq<|rg r<|cdH r hy (fun hy=>?_) fun hy=>?_
   ·refine regd mixed 16 r<|go 6 r<|bdH hy fun i19 qi19 bi19 hy=>gtH hy fun v20 xv20 hy=>ixP' sl41 qi19 bi19 r r r r<|ldP (f:=EdA) tk47 xv20 r r r r r<|go 2 r<|bdH hy fun i21 qi21 bi21 hy=>gtH hy fun v22 xv22 hy=>ixP' sl41 qi21 bi21 r r r r<|ldP (f:=EdA) tk47 xv22 r r r r r<|bdH hy fun i23 qi23 bi23 hy=>gtH hy fun v24 xv24 hy=>ixP' sl41 qi23 bi23 r r r r<|stP (f:=EdA) (v20) tk47 xv24 r r r r r r<|bdH hy fun i25 qi25 bi25 hy=>gtH hy fun v26 xv26 hy=>ixP' sl41 qi25 bi25 r r r r<|stP (f:=EdA) (v22) tk47 xv26 r r r r r r<|dn ⟨by kernel_rfl,?_⟩
    refine rg r<|at_ret<|?_
    obtain rfl:=sj hy
    exact outOs (g1:=EdA) (rs:=[10,11]) (res2 r) (by simp) (.inl r) (looks_of r) r r pu_Ed (.cons (pu_I _) (.cons (pu_B _) (.nil)))
   ·refine at_skip<|regd mixed 16 r<|go 6 r<|bdH hy fun i27 qi27 bi27 hy=>gtH hy fun v28 xv28 hy=>ixP' sl41 qi27 bi27 r r r r<|ldP (f:=EdA) tk47 xv28 r r r r r<|go 2 r<|bdH hy fun i29 qi29 bi29 hy=>gtH hy fun v30 xv30 hy=>ixP' sl41 qi29 bi29 r r r r<|ldP (f:=EdA) tk47 xv30 r r r r r<|bdH hy fun i31 qi31 bi31 hy=>gtH hy fun v32 xv32 hy=>ixP' sl41 qi31 bi31 r r r r<|stP (f:=EdA) (v28) tk47 xv32 r r r r r r<|bdH hy fun i33 qi33 bi33 hy=>gtH hy fun v34 xv34 hy=>ixP' sl41 qi33 bi33 r r r r<|stP (f:=EdA) (v30) tk47 xv34 r r r r r r<|dn ⟨by kernel_rfl,?_⟩
    refine rg r<|rg r<|bkH hy fun o5 hy k5 hk5 hc5=>meetD [1] [] r r (fun (p:Int × (List Ed))=>match p with | (v13_11,l0_11)=>([(0,.own 0 0 2 0 (l0_11).length false),(13,(I v13_11))],[(0,some (0,.buf 2 (l0_11.map EdA)))],k5 (v13_11,l0_11)=some y)) ?_ ?_
    ·skip
     refine at_block<|loopD [1,4] [] r r (fun (p:Nat × Int × Int × (List Ed))=>match p with | (n6,v12_10,v13_10,l0_10)=>([(0,.own 0 0 2 0 (l0_10).length false),(12,(I v12_10)),(13,(I v13_10))],[(0,some (0,.buf 2 (l0_10.map EdA)))],p_3 K a1 a4 n6 v12_10 v13_10 l0_10=some o5)) (K,(w64 (v12_2+1)),(w64 (v13_4 - 1)),((l0_2.set i31 v28).set i33 v30)) (.k r (by simp) (.j r (.j r .nil))) (hk r) hy<|?_
     rintro ⟨n6,v12_10,v13_10,l0_10⟩ cl hy
     obtain _ | n6:=n6;· cases hy
     refine nf r r<|?_
     replace hy:_=some _:=hy
     rw [p_3] at hy
     refine bkH hy fun o7 hy k7 hk7 hc7=>meetE [1,4] [] r r (fun (p:Int × Int × (List Ed))=>match p with | (v12_9,v13_9,l0_9)=>([(0,.own 0 0 2 0 (l0_9).length false),(12,(I v12_9)),(13,(I v13_9))],[(0,some (0,.buf 2 (l0_9.map EdA)))],k7 (.inl (v12_9,v13_9,l0_9))=some o5)) ?_ ?_
     ·skip
      refine at_block<|bkH hy fun o8 hy k8 hk8 hc8=>meetD [0,1,4,13] [0] r r (fun (p:Int)=>match p with | v12_6=>([(12,(I v12_6))],[],k8 v12_6=some o7)) ?_ ?_
      ·skip
       refine at_block<|loopD [0,1,4,13] [0] r r (fun (p:Nat × Int)=>match p with | (n9,v12_5)=>([(12,(I v12_5))],[],p_1 K v13_10 l0_10 a1 a4 n9 v12_5=some o8)) (K,v12_10) (lk r) .nil hy<|?_
       rintro ⟨n9,v12_5⟩ cl hy
       obtain _ | n9:=n9;· cases hy
       refine nf r r<|?_
       replace hy:_=some _:=hy
       rw [p_1] at hy
       refine at_seq<|regd mixed 16 r<|go 4 r<|casH 108 r hy (fun hy=>?_) fun hy=>?_
       ·refine go 3 r<|bdH hy fun i35 qi35 bi35 hy=>gtH hy fun v36 xv36 hy=>ixP' sl41 qi35 bi35 r r r r<|ldP (f:=EdA) tk47 xv36 r r r r r<|go 2 r<|bdH hy fun i37 qi37 bi37 hy=>gtH hy fun v38 xv38 hy=>ixP' sl41 qi37 bi37 r r r r<|ldP (f:=EdA) tk47 xv38 r r r r r<|bndH hy fun r39 qr39 hy=>clv (a4h qr39) a4k r r r r a4l (puL3 a4p (.cons (pu_Ed _) (.cons (pu_Ed _) (.nil))) a4q) (.one (pu_I _)) r<|go 2 r<|dn ⟨by kernel_rfl,?_⟩
        refine cdH r hy (fun hy=>?_) fun hy=>?_
        ·refine at_skip<|at_block<|rg1 r<|at_bn<|againD (n9,(w64 (v12_5+1))) (lk r) .nil r r hy r
        ·exact at_exit<|at_te<|at_te<|at_inBlock<|metD v12_5 (lk r) .nil r r (sj2 hy hc8)
       ·refine go 12 r<|dn ⟨by kernel_rfl,?_⟩
        exact cdf r<|at_exit<|at_te<|at_te<|at_inBlock<|metD v12_5 (lk r) .nil r r (sj2 hy hc8)
      ·rintro v12_6 cl hy
       subst hk8
       refine nf r r<|bkH hy fun o10 hy k10 hk10 hc10=>meetD [0,1,4,12] [0] r r (fun (p:Int)=>match p with | v13_8=>([(13,(I v13_8))],[],k10 v13_8=some o7)) ?_ ?_
       ·skip
        refine at_block<|loopD [0,1,4,12] [0] r r (fun (p:Nat × Int)=>match p with | (n11,v13_7)=>([(13,(I v13_7))],[],p_2 K v12_6 l0_10 a1 a4 n11 v13_7=some o10)) (K,v13_10) (lk r) .nil hy<|?_
        rintro ⟨n11,v13_7⟩ cl hy
        obtain _ | n11:=n11;· cases hy
        refine nf r r<|?_
        replace hy:_=some _:=hy
        rw [p_2] at hy
        refine at_seq<|regd mixed 17 r<|go 4 r<|casH 126 r hy (fun hy=>?_) fun hy=>?_
        ·refine go 3 r<|bdH hy fun i40 qi40 bi40 hy=>gtH hy fun v41 xv41 hy=>ixP' sl41 qi40 bi40 r r r r<|ldP (f:=EdA) tk47 xv41 r r r r r<|go 2 r<|bdH hy fun i42 qi42 bi42 hy=>gtH hy fun v43 xv43 hy=>ixP' sl41 qi42 bi42 r r r r<|ldP (f:=EdA) tk47 xv43 r r r r r<|bndH hy fun r44 qr44 hy=>clv (a4h qr44) a4k r r r r a4l (puL3 a4p (.cons (pu_Ed _) (.cons (pu_Ed _) (.nil))) a4q) (.one (pu_I _)) r<|go 3 r<|dn ⟨by kernel_rfl,?_⟩
         refine cdH r hy (fun hy=>?_) fun hy=>?_
         ·refine at_skip<|at_block<|rg1 r<|at_bn<|againD (n11,(w64 (v13_7 - 1))) (lk r) .nil r r hy r
         ·exact at_exit<|at_te<|at_te<|at_inBlock<|metD v13_7 (lk r) .nil r r (sj2 hy hc10)
        ·refine go 13 r<|dn ⟨by kernel_rfl,?_⟩
         exact cdf r<|at_exit<|at_te<|at_te<|at_inBlock<|metD v13_7 (lk r) .nil r r (sj2 hy hc10)
       ·rintro v13_8 cl hy
        subst hk10
        refine nf r r<|at_seq<|rg r<|cdH r hy (fun hy=>?_) fun hy=>?_
        ·refine at_exit<|at_te<|at_outBlock (by decide)<|at_te<|at_te<|at_inBlock<|?_
         obtain rfl:=sj hy
         subst hk7
         replace hy:=hc7
         exact metD (v13_8,l0_10) (lk r) (hk r) r r (sj2 hy hc5)
        ·refine at_skip<|regd mixed 16 r<|go 6 r<|bdH hy fun i45 qi45 bi45 hy=>gtH hy fun v46 xv46 hy=>ixP' sl41 qi45 bi45 r r r r<|ldP (f:=EdA) tk47 xv46 r r r r r<|go 2 r<|bdH hy fun i47 qi47 bi47 hy=>gtH hy fun v48 xv48 hy=>ixP' sl41 qi47 bi47 r r r r<|ldP (f:=EdA) tk47 xv48 r r r r r<|bdH hy fun i49 qi49 bi49 hy=>gtH hy fun v50 xv50 hy=>ixP' sl41 qi49 bi49 r r r r<|stP (f:=EdA) (v46) tk47 xv50 r r r r r r<|bdH hy fun i51 qi51 bi51 hy=>gtH hy fun v52 xv52 hy=>ixP' sl41 qi51 bi51 r r r r<|stP (f:=EdA) (v48) tk47 xv52 r r r r r r<|dn ⟨by kernel_rfl,?_⟩
         exact rg r<|rg1 r<|at_bn<|metD ((w64 (v12_6+1)),(w64 (v13_8 - 1)),((l0_10.set i49 v46).set i51 v48)) (.k r (by simp) (.j r (.j r .nil))) (hk r) r r (sj2 hy hc7)
     ·rintro ⟨v12_9,v13_9,l0_9⟩ cl hy
      subst hk7
      refine nf r r<|againD (n6,v12_9,v13_9,l0_9) (lk r) (hk r) r r hy r
    ·rintro ⟨v13_11,l0_11⟩ cl hy
     subst hk5
     refine nf r r<|regd mixed 16 r<|go 6 r<|bdH hy fun i53 qi53 bi53 hy=>gtH hy fun v54 xv54 hy=>ixP' sl41 qi53 bi53 r r r r<|ldP (f:=EdA) tk47 xv54 r r r r r<|go 2 r<|bdH hy fun i55 qi55 bi55 hy=>gtH hy fun v56 xv56 hy=>ixP' sl41 qi55 bi55 r r r r<|ldP (f:=EdA) tk47 xv56 r r r r r<|bdH hy fun i57 qi57 bi57 hy=>gtH hy fun v58 xv58 hy=>ixP' sl41 qi57 bi57 r r r r<|stP (f:=EdA) (v54) tk47 xv58 r r r r r r<|bdH hy fun i59 qi59 bi59 hy=>gtH hy fun v60 xv60 hy=>ixP' sl41 qi59 bi59 r r r r<|stP (f:=EdA) (v56) tk47 xv60 r r r r r r<|dn ⟨by kernel_rfl,?_⟩
     refine rg r<|at_ret<|?_
     obtain rfl:=sj hy
     exact outOs (g1:=EdA) (rs:=[10,11]) (res2 r) (by simp) (.inl r) (looks_of r) r r pu_Ed (.cons (pu_I _) (.cons (pu_B _) (.nil)))
def p_B (K:Nat) (v12_6:Int) (l0_6:(List Ed)) (a1:Int) (a4:(Ed→Ed→Option Int)):Nat→Int→Option Int
 | 0,_=>none
 | n+1,v11_1=>(bif (decide (v11_1≤v12_6)) then (bdP l0_6.length a1 fun i9=>gtP l0_6 i9 fun v10=>(bdP l0_6.length v11_1 fun i11=>gtP l0_6 i11 fun v12=>((a4 v10 v12).bind fun r13=>(bif (!(decide (r13 < 0))) then p_B K v12_6 l0_6 a1 a4 n (w64 (v11_1+1)) else some v11_1)))) else some v11_1)
def p_C (K:Nat) (v11_2:Int) (l0_6:(List Ed)) (a1:Int) (a4:(Ed→Ed→Option Int)):Nat→Int→Option Int
 | 0,_=>none
 | n+1,v12_3=>(bif (decide (v11_2≤v12_3)) then (bdP l0_6.length a1 fun i14=>gtP l0_6 i14 fun v15=>(bdP l0_6.length v12_3 fun i16=>gtP l0_6 i16 fun v17=>((a4 v15 v17).bind fun r18=>(bif (decide (r18 < 0)) then p_C K v11_2 l0_6 a1 a4 n (w64 (v12_3 - 1)) else some v12_3)))) else some v12_3)
def p_D (K:Nat) (a1:Int) (a4:(Ed→Ed→Option Int)):Nat→Int→Int→(List Ed)→Option (Int × (List Ed))
 | 0,_,_,_=>none
 | n+1,v11_6,v12_6,l0_6=>((((p_B K v12_6 l0_6 a1 a4 K v11_6:Option Int).bind fun v11_2=>((p_C K v11_2 l0_6 a1 a4 K v12_6:Option Int).bind fun v12_4=>(bif (decide (v11_2 > v12_4)) then some (.inr (v11_2,l0_6)) else (bdP l0_6.length v12_4 fun i19=>gtP l0_6 i19 fun v20=>(bdP l0_6.length v11_2 fun i21=>gtP l0_6 i21 fun v22=>(bdP l0_6.length v11_2 fun i23=>gtP l0_6 i23 fun v24=>(bdP l0_6.length v12_4 fun i25=>gtP (l0_6.set i23 v20) i25 fun v26=>some (.inl ((w64 (v11_2+1)),(w64 (v12_4 - 1)),((l0_6.set i23 v20).set i25 v22)))))))))):Option (Sum (Int × Int × (List Ed)) (Int × (List Ed)))).bind fun | .inl (v11_5,v12_5,l0_5)=>p_D K a1 a4 n v11_5 v12_5 l0_5 | .inr r=>some r)
def p_bH (K:Nat) (a0:(List Ed)) (a1:Int) (a2:Int) (a3:Int) (a4:(Ed→Ed→Option Int)):Option (Int × (List Ed)) :=
 (bdP a0.length a3 fun i1=>gtP a0 i1 fun v2=>(bdP a0.length a1 fun i3=>gtP a0 i3 fun v4=>(bdP a0.length a1 fun i5=>gtP a0 i5 fun v6=>(bdP a0.length a3 fun i7=>gtP (a0.set i5 v2) i7 fun v8=>((p_D K a1 a4 K (w64 (a1+1)) (w64 (a2 - 1)) ((a0.set i5 v2).set i7 v4):Option (Int × (List Ed))).bind fun (v11_7,l0_7)=>some (v11_7,l0_7))))))
theorem w_ej {K:Nat}{a0:(List Ed)}{a1:Int}{a2:Int}{a3:Int}{a4:(Ed→Ed→Option Int)}{y:(Int × (List Ed))}{a4f:FuncId}{a4s a4c:List AV} (a4h:∀ {x0:Ed}{x1:Ed}{r:Int},a4 x0 x1=some r→Does PP GV a4f [] (a4s++[(EdA x0),(EdA x1)]++a4c) [] [] (I r)) (a4k:callable PP a4f=true) (a4l:a4s.all flat=true∧a4c.all flat=true) (a4p:PuL a4s) (a4q:PuL a4c) (hy:p_bH K a0 a1 a2 a3 a4=some y):Does PP GV 108 [.buf 2 (a0.map EdA)] [.own 0 0 2 0 a0.length false,(I a1),(I a2),(I a3),.fn (.func a4f) a4s a4c] [0] [.buf 2 (y.2.map EdA)] (I y.1):=by
 unfold p_bH at hy
 refine does_of at108 r (le_ok r)<|?_
 rintro ⟨_,base,w0,F⟩ rfl
 refine rg r<|regd mixed 16 r<|go 6 r<|bdH hy fun i1 qi1 bi1 hy=>gtH hy fun v2 xv2 hy=>ixP' sl41 qi1 bi1 r r r r<|ldP (f:=EdA) tk47 xv2 r r r r r<|go 2 r<|bdH hy fun i3 qi3 bi3 hy=>gtH hy fun v4 xv4 hy=>ixP' sl41 qi3 bi3 r r r r<|ldP (f:=EdA) tk47 xv4 r r r r r<|bdH hy fun i5 qi5 bi5 hy=>gtH hy fun v6 xv6 hy=>ixP' sl41 qi5 bi5 r r r r<|stP (f:=EdA) (v2) tk47 xv6 r r r r r r<|bdH hy fun i7 qi7 bi7 hy=>gtH hy fun v8 xv8 hy=>ixP' sl41 qi7 bi7 r r r r<|stP (f:=EdA) (v4) tk47 xv8 r r r r r r<|dn ⟨by kernel_rfl,?_⟩
 refine rg r<|bkH hy fun o1 hy k1 hk1 hc1=>meetD [] [] r r (fun (p:Int × (List Ed))=>match p with | (v11_7,l0_7)=>([(0,.own 0 0 2 0 (l0_7).length false),(11,(I v11_7))],[(0,some (0,.buf 2 (l0_7.map EdA)))],k1 (v11_7,l0_7)=some y)) ?_ ?_
 ·skip
  refine at_block<|loopD [1,4] [] r r (fun (p:Nat × Int × Int × (List Ed))=>match p with | (n2,v11_6,v12_6,l0_6)=>([(0,.own 0 0 2 0 (l0_6).length false),(11,(I v11_6)),(12,(I v12_6))],[(0,some (0,.buf 2 (l0_6.map EdA)))],p_D K a1 a4 n2 v11_6 v12_6 l0_6=some o1)) (K,(w64 (a1+1)),(w64 (a2 - 1)),((a0.set i5 v2).set i7 v4)) (.k r (by simp) (.j r (.j r .nil))) (hk r) hy<|?_
  rintro ⟨n2,v11_6,v12_6,l0_6⟩ cl hy
  obtain _ | n2:=n2;· cases hy
  refine nf r r<|?_
  replace hy:_=some _:=hy
  rw [p_D] at hy
  refine bkH hy fun o3 hy k3 hk3 hc3=>meetE [1,4] [] r r (fun (p:Int × Int × (List Ed))=>match p with | (v11_5,v12_5,l0_5)=>([(0,.own 0 0 2 0 (l0_5).length false),(11,(I v11_5)),(12,(I v12_5))],[(0,some (0,.buf 2 (l0_5.map EdA)))],k3 (.inl (v11_5,v12_5,l0_5))=some o1)) ?_ ?_
  ·skip
   refine at_block<|bkH hy fun o4 hy k4 hk4 hc4=>meetD [0,1,4,12] [0] r r (fun (p:Int)=>match p with | v11_2=>([(11,(I v11_2))],[],k4 v11_2=some o3)) ?_ ?_
   ·skip
    refine at_block<|loopD [0,1,4,12] [0] r r (fun (p:Nat × Int)=>match p with | (n5,v11_1)=>([(11,(I v11_1))],[],p_B K v12_6 l0_6 a1 a4 n5 v11_1=some o4)) (K,v11_6) (lk r) .nil hy<|?_
    rintro ⟨n5,v11_1⟩ cl hy
    obtain _ | n5:=n5;· cases hy
    refine nf r r<|?_
    replace hy:_=some _:=hy
    rw [p_B] at hy
    refine at_seq<|regd mixed 17 r<|go 4 r<|casH 34 r hy (fun hy=>?_) fun hy=>?_
    ·refine go 3 r<|bdH hy fun i9 qi9 bi9 hy=>gtH hy fun v10 xv10 hy=>ixP' sl41 qi9 bi9 r r r r<|ldP (f:=EdA) tk47 xv10 r r r r r<|go 2 r<|bdH hy fun i11 qi11 bi11 hy=>gtH hy fun v12 xv12 hy=>ixP' sl41 qi11 bi11 r r r r<|ldP (f:=EdA) tk47 xv12 r r r r r<|bndH hy fun r13 qr13 hy=>clv (a4h qr13) a4k r r r r a4l (puL3 a4p (.cons (pu_Ed _) (.cons (pu_Ed _) (.nil))) a4q) (.one (pu_I _)) r<|go 3 r<|dn ⟨by kernel_rfl,?_⟩
     refine cdH r hy (fun hy=>?_) fun hy=>?_
     ·refine at_skip<|at_block<|rg1 r<|at_bn<|againD (n5,(w64 (v11_1+1))) (lk r) .nil r r hy r
     ·exact at_exit<|at_te<|at_te<|at_inBlock<|metD v11_1 (lk r) .nil r r (sj2 hy hc4)
    ·refine go 13 r<|dn ⟨by kernel_rfl,?_⟩
     exact cdf r<|at_exit<|at_te<|at_te<|at_inBlock<|metD v11_1 (lk r) .nil r r (sj2 hy hc4)
   ·rintro v11_2 cl hy
    subst hk4
    refine nf r r<|bkH hy fun o6 hy k6 hk6 hc6=>meetD [0,1,4,11] [0] r r (fun (p:Int)=>match p with | v12_4=>([(12,(I v12_4))],[],k6 v12_4=some o3)) ?_ ?_
    ·skip
     refine at_block<|loopD [0,1,4,11] [0] r r (fun (p:Nat × Int)=>match p with | (n7,v12_3)=>([(12,(I v12_3))],[],p_C K v11_2 l0_6 a1 a4 n7 v12_3=some o6)) (K,v12_6) (lk r) .nil hy<|?_
     rintro ⟨n7,v12_3⟩ cl hy
     obtain _ | n7:=n7;· cases hy
     refine nf r r<|?_
     replace hy:_=some _:=hy
     rw [p_C] at hy
     refine at_seq<|regd mixed 16 r<|go 4 r<|casH 53 r hy (fun hy=>?_) fun hy=>?_
     ·refine go 3 r<|bdH hy fun i14 qi14 bi14 hy=>gtH hy fun v15 xv15 hy=>ixP' sl41 qi14 bi14 r r r r<|ldP (f:=EdA) tk47 xv15 r r r r r<|go 2 r<|bdH hy fun i16 qi16 bi16 hy=>gtH hy fun v17 xv17 hy=>ixP' sl41 qi16 bi16 r r r r<|ldP (f:=EdA) tk47 xv17 r r r r r<|bndH hy fun r18 qr18 hy=>clv (a4h qr18) a4k r r r r a4l (puL3 a4p (.cons (pu_Ed _) (.cons (pu_Ed _) (.nil))) a4q) (.one (pu_I _)) r<|go 2 r<|dn ⟨by kernel_rfl,?_⟩
      refine cdH r hy (fun hy=>?_) fun hy=>?_
      ·refine at_skip<|at_block<|rg1 r<|at_bn<|againD (n7,(w64 (v12_3 - 1))) (lk r) .nil r r hy r
      ·exact at_exit<|at_te<|at_te<|at_inBlock<|metD v12_3 (lk r) .nil r r (sj2 hy hc6)
     ·refine go 12 r<|dn ⟨by kernel_rfl,?_⟩
      exact cdf r<|at_exit<|at_te<|at_te<|at_inBlock<|metD v12_3 (lk r) .nil r r (sj2 hy hc6)
    ·rintro v12_4 cl hy
     subst hk6
     refine nf r r<|at_seq<|rg r<|cdH r hy (fun hy=>?_) fun hy=>?_
     ·refine at_exit<|at_te<|at_outBlock (by decide)<|at_te<|at_te<|at_inBlock<|?_
      obtain rfl:=sj hy
      subst hk3
      replace hy:=hc3
      exact metD (v11_2,l0_6) (lk r) (hk r) r r (sj2 hy hc1)
     ·refine at_skip<|regd mixed 16 r<|go 6 r<|bdH hy fun i19 qi19 bi19 hy=>gtH hy fun v20 xv20 hy=>ixP' sl41 qi19 bi19 r r r r<|ldP (f:=EdA) tk47 xv20 r r r r r<|go 2 r<|bdH hy fun i21 qi21 bi21 hy=>gtH hy fun v22 xv22 hy=>ixP' sl41 qi21 bi21 r r r r<|ldP (f:=EdA) tk47 xv22 r r r r r<|bdH hy fun i23 qi23 bi23 hy=>gtH hy fun v24 xv24 hy=>ixP' sl41 qi23 bi23 r r r r<|stP (f:=EdA) (v20) tk47 xv24 r r r r r r<|bdH hy fun i25 qi25 bi25 hy=>gtH hy fun v26 xv26 hy=>ixP' sl41 qi25 bi25 r r r r<|stP (f:=EdA) (v22) tk47 xv26 r r r r r r<|dn ⟨by kernel_rfl,?_⟩
      exact rg r<|rg1 r<|at_bn<|metD ((w64 (v11_2+1)),(w64 (v12_4 - 1)),((l0_6.set i23 v20).set i25 v22)) (.k r (by simp) (.j r (.j r .nil))) (hk r) r r (sj2 hy hc3)
  ·rintro ⟨v11_5,v12_5,l0_5⟩ cl hy
   subst hk3
   refine nf r r<|againD (n2,v11_5,v12_5,l0_5) (lk r) (hk r) r r hy r
 ·rintro ⟨v11_7,l0_7⟩ cl hy
  subst hk1
  refine nf r r<|rg r<|at_ret<|?_
  obtain rfl:=sj hy
  exact outO1 (g1:=EdA) r (.inl r) r (pu_I _) r pu_Ed
def p_P (K:Nat)  : Nat→Int→Int→(List Ed)→Option (List Ed)
 | 0,_,_,_=>none
 | n+1,v8_1,v9_1,l0_1=>(bif (decide (v8_1 < v9_1)) then (bdP l0_1.length v9_1 fun i1=>gtP l0_1 i1 fun v2=>(bdP l0_1.length v8_1 fun i3=>gtP l0_1 i3 fun v4=>(bdP l0_1.length v8_1 fun i5=>gtP l0_1 i5 fun v6=>(bdP l0_1.length v9_1 fun i7=>gtP (l0_1.set i5 v2) i7 fun v8=>p_P K  n (w64 (v8_1+1)) (w64 (v9_1 - 1)) ((l0_1.set i5 v2).set i7 v4))))) else some l0_1)
def p_bW (K:Nat) (a0:(List Ed)) (a1:Int) (a2:Int) (a3:(Ed→Ed→Option Int)):Option (List Ed) :=
 p_P K  K a1 (w64 (a2 - 1)) a0
theorem w_eE {K:Nat}{a0:(List Ed)}{a1:Int}{a2:Int}{a3:(Ed→Ed→Option Int)}{y:(List Ed)}{a3f:FuncId}{a3s a3c:List AV} (a3h:∀ {x0:Ed}{x1:Ed}{r:Int},a3 x0 x1=some r→Does PP GV a3f [] (a3s++[(EdA x0),(EdA x1)]++a3c) [] [] (I r)) (a3k:callable PP a3f=true) (a3l:a3s.all flat=true∧a3c.all flat=true) (a3p:PuL a3s) (a3q:PuL a3c) (hy:p_bW K a0 a1 a2 a3=some y):Does PP GV 106 [.buf 2 (a0.map EdA)] [.own 0 0 2 0 a0.length false,(I a1),(I a2),.fn (.func a3f) a3s a3c] [0] [.buf 2 (y.map EdA)] (.tup []):=by
 unfold p_bW at hy
 refine does_of at106 r (le_ok r)<|?_
 rintro ⟨_,base,w0,F⟩ rfl
 refine rg r<|rg r<|at_block<|loopD [] [] r r (fun (p:Nat × Int × Int × (List Ed))=>match p with | (n1,v8_1,v9_1,l0_1)=>([(0,.own 0 0 2 0 (l0_1).length false),(8,(I v8_1)),(9,(I v9_1))],[(0,some (0,.buf 2 (l0_1.map EdA)))],p_P K  n1 v8_1 v9_1 l0_1=some y)) (K,a1,(w64 (a2 - 1)),a0) (lk r) (hk r) hy<|?_
 rintro ⟨n1,v8_1,v9_1,l0_1⟩ cl hy
 obtain _ | n1:=n1;· cases hy
 refine nf r r<|?_
 replace hy:_=some _:=hy
 rw [p_P] at hy
 refine at_seq<|rg r<|cdH r hy (fun hy=>?_) fun hy=>?_
 ·refine at_skip<|at_block<|regd mixed 16 r<|go 6 r<|bdH hy fun i1 qi1 bi1 hy=>gtH hy fun v2 xv2 hy=>ixP' sl41 qi1 bi1 r r r r<|ldP (f:=EdA) tk47 xv2 r r r r r<|go 2 r<|bdH hy fun i3 qi3 bi3 hy=>gtH hy fun v4 xv4 hy=>ixP' sl41 qi3 bi3 r r r r<|ldP (f:=EdA) tk47 xv4 r r r r r<|bdH hy fun i5 qi5 bi5 hy=>gtH hy fun v6 xv6 hy=>ixP' sl41 qi5 bi5 r r r r<|stP (f:=EdA) (v2) tk47 xv6 r r r r r r<|bdH hy fun i7 qi7 bi7 hy=>gtH hy fun v8 xv8 hy=>ixP' sl41 qi7 bi7 r r r r<|stP (f:=EdA) (v4) tk47 xv8 r r r r r r<|dn ⟨by kernel_rfl,?_⟩
  refine rg r<|rg1 r<|at_bn<|againD (n1,(w64 (v8_1+1)),(w64 (v9_1 - 1)),((l0_1.set i5 v2).set i7 v4)) (.k r (by simp) (.j r (.j r .nil))) (hk r) r r hy r
 ·refine at_exit<|at_te<|at_te<|at_inBlock<|?_
  obtain rfl:=sj hy
  exact outO0 (g1:=EdA) r (.inr r) r pu_Ed
end Go.Ar
namespace Go.Ar
open Go.RowKit
def p_d (K:Nat) (a4:(Ed→Ed→Option Int)) (rc:(List Ed)→Int→Int→Int→Option (List Ed)):Nat→Int→Int→Int→Bool→Bool→(List Ed)→Option (List Ed)
 | 0,_,_,_,_,_,_=>none
 | n+1,v1_4,v2_4,v3_4,v10_4,v11_4,l0_4=>(bif (decide ((w64 (v2_4 - v1_4))≤12)) then ((p_bP K l0_4 v1_4 v2_4 a4).bind fun r1=>lenP l0_4 r1 (some r1)) else (bif (v3_4 == 0) then ((p_cl K l0_4 v1_4 v2_4 a4).bind fun r2=>lenP l0_4 r2 (some r2)) else (((bif (!v10_4) then ((p_bO K l0_4 v1_4 v2_4 a4).bind fun r3=>lenP l0_4 r3 (some ((w64 (v3_4 - 1)),r3))) else some (v3_4,l0_4)):Option (Int × (List Ed))).bind fun (v3_1,l0_1)=>((p_bZ K l0_1 v1_4 v2_4 a4).bind fun r4=>(((bif (r4.2 == 2) then ((p_bW K l0_1 v1_4 v2_4 a4).bind fun r5=>lenP l0_1 r5 (some ((w64 ((w64 (v2_4 - 1)) - (w64 (r4.1 - v1_4)))),1,r5))) else some (r4.1,r4.2,l0_1)):Option (Int × Int × (List Ed))).bind fun (v13_2,v14_2,l0_2)=>(((bif v10_4 then (bif v11_4 then (bif (v14_2 == 1) then ((p_be K l0_2 v1_4 v2_4 a4).bind fun r6=>lenP l0_2 r6.2 ((bif r6.1 then some (.inr r6.2) else some (.inl r6.2)))) else some (.inl l0_2)) else some (.inl l0_2)) else some (.inl l0_2)):Option (Sum (List Ed) (List Ed))).bind fun | .inl l0_3=>(bif (decide (v1_4 > 0)) then (bdP l0_3.length (w64 (v1_4 - 1)) fun i7=>gtP l0_3 i7 fun v8=>(bdP l0_3.length v13_2 fun i9=>gtP l0_3 i9 fun v10=>((a4 v8 v10).bind fun r11=>(bif (!(decide (r11 < 0))) then ((p_bH K l0_3 v1_4 v2_4 v13_2 a4).bind fun r12=>lenP l0_3 r12.2 (p_d K a4 rc n r12.1 v2_4 v3_1 v10_4 v11_4 r12.2)) else ((p_bl K l0_3 v1_4 v2_4 v13_2 a4).bind fun r13=>lenP l0_3 r13.2.2 ((bif (decide ((w64 (r13.1 - v1_4)) < (w64 (v2_4 - r13.1)))) then ((rc r13.2.2 v1_4 r13.1 v3_1).bind fun r14=>lenP r13.2.2 r14 (p_d K a4 rc n (w64 (r13.1+1)) v2_4 v3_1 (decide ((w64 (r13.1 - v1_4))≥(w64 (Int.tdiv (w64 (v2_4 - v1_4)) 8)))) r13.2.1 r14)) else ((rc r13.2.2 (w64 (r13.1+1)) v2_4 v3_1).bind fun r15=>lenP r13.2.2 r15 (p_d K a4 rc n v1_4 r13.1 v3_1 (decide ((w64 (v2_4 - r13.1))≥(w64 (Int.tdiv (w64 (v2_4 - v1_4)) 8)))) r13.2.1 r15))))))))) else ((p_bl K l0_3 v1_4 v2_4 v13_2 a4).bind fun r16=>lenP l0_3 r16.2.2 ((bif (decide ((w64 (r16.1 - v1_4)) < (w64 (v2_4 - r16.1)))) then ((rc r16.2.2 v1_4 r16.1 v3_1).bind fun r17=>lenP r16.2.2 r17 (p_d K a4 rc n (w64 (r16.1+1)) v2_4 v3_1 (decide ((w64 (r16.1 - v1_4))≥(w64 (Int.tdiv (w64 (v2_4 - v1_4)) 8)))) r16.2.1 r17)) else ((rc r16.2.2 (w64 (r16.1+1)) v2_4 v3_1).bind fun r18=>lenP r16.2.2 r18 (p_d K a4 rc n v1_4 r16.1 v3_1 (decide ((w64 (v2_4 - r16.1))≥(w64 (Int.tdiv (w64 (v2_4 - v1_4)) 8)))) r16.2.1 r18)))))) | .inr r=>some r))))))
def p_cd (K:Nat) (rc:(List Ed)→Int→Int→Int→Option (List Ed)) (a0:(List Ed)) (a1:Int) (a2:Int) (a3:Int) (a4:(Ed→Ed→Option Int)):Option (List Ed) :=
 p_d K a4 rc K a1 a2 a3 true true a0
def p_N (K:Nat) (a4:(Ed→Ed→Option Int)):Nat→(List Ed)→Int→Int→Int→Option (List Ed)
 | 0,_,_,_,_=>none
 | n+1,a0,a1,a2,a3=>p_cd K (p_N K a4 n) a0 a1 a2 a3 a4
def p_ds (K:Nat) (a0:(List Ed)) (a1:Int) (a2:Int) (a3:Int) (a4:(Ed→Ed→Option Int)):Option (List Ed):=p_N K a4 K a0 a1 a2 a3
theorem w_eU {K:Nat}{a4:(Ed→Ed→Option Int)}{a4f:FuncId}{a4s a4c:List AV} (a4h:∀ {x0:Ed}{x1:Ed}{r:Int},a4 x0 x1=some r→Does PP GV a4f [] (a4s++[(EdA x0),(EdA x1)]++a4c) [] [] (I r)) (a4k:callable PP a4f=true) (a4l:a4s.all flat=true∧a4c.all flat=true) (a4p:PuL a4s) (a4q:PuL a4c):∀ (n:Nat) {a0:(List Ed)}{a1:Int}{a2:Int}{a3:Int}{y:(List Ed)},p_N K a4 n a0 a1 a2 a3=some y→Does PP GV 83 [.buf 2 (a0.map EdA)] [.own 0 0 2 0 a0.length false,(I a1),(I a2),(I a3),.fn (.func a4f) a4s a4c] [0] [.buf 2 (y.map EdA)] (.tup []):=by
 intro n
 induction n with
 | zero=>intro a0 a1 a2 a3 y hy;cases hy
 | succ n ih =>
  intro a0 a1 a2 a3 y hy
  replace hy:p_cd K (p_N K a4 n) a0 a1 a2 a3 a4=some y:=hy
  generalize p_N K a4 n=rc at hy ih
  unfold p_cd at hy
  refine does_of at83 r (le_ok r)<|?_
  rintro ⟨_,base,w0,F⟩ rfl
  refine rg r<|rg r<|at_block<|loopD [4] [] r r (fun (p:Nat × Int × Int × Int × Bool × Bool × (List Ed))=>match p with | (n1,v1_4,v2_4,v3_4,v10_4,v11_4,l0_4)=>([(0,.own 0 0 2 0 (l0_4).length false),(1,(I v1_4)),(2,(I v2_4)),(3,(I v3_4)),(10,(B v10_4)),(11,(B v11_4))],[(0,some (0,.buf 2 (l0_4.map EdA)))],p_d K a4 rc n1 v1_4 v2_4 v3_4 v10_4 v11_4 l0_4=some y)) (K,a1,a2,a3,true,true,a0) (lk r) (hk r) hy<|?_
  rintro ⟨n1,v1_4,v2_4,v3_4,v10_4,v11_4,l0_4⟩ cl hy
  obtain _ | n1:=n1;· cases hy
  refine nf r r<|?_
  replace hy:_=some _:=hy
  rw [p_d] at hy
  refine at_block<|rg r<|at_seq<|rg r<|cdH r hy (fun hy=>?_) fun hy=>?_
  ·refine reg 5 r<|go 4 r<|bndH hy fun r1 qr1 hy=>?_
   obtain ⟨tr1,hy⟩:=lenI hy
   refine clo1 (s:=0) (w_ey (a3h:=a4h) (a3k:=a4k) (a3l:=a4l) (a3p:=a4p) (a3q:=a4q) qr1) ca102 r (.tup (.nil)) r r pu_Ed ?_ r ?_
   ·exact .cons _ _ _ _ (rnOwn (List.Mem.head _) (by first | rfl | simp)) (.cons _ _ _ _ (.pu _ (pu_I _)) (.cons _ _ _ _ (.pu _ (pu_I _)) (.cons _ _ _ _ (.pu _ (pu_fn a4p a4q)) (.nil))))
   refine teq 0 (y:=.own 0 0 2 0 r1.length false) r (by first | (rw [tr1];done) | simp [tr1])<|dn<|at_ret<|?_
   obtain rfl:=sj hy
   exact outO0 (g1:=EdA) r (.inl r) r pu_Ed
  ·refine at_skip<|at_seq<|rg r<|cdH r hy (fun hy=>?_) fun hy=>?_
   ·refine reg 5 r<|go 4 r<|bndH hy fun r2 qr2 hy=>?_
    obtain ⟨tr2,hy⟩:=lenI hy
    refine clo1 (s:=0) (w_eY (a3h:=a4h) (a3k:=a4k) (a3l:=a4l) (a3p:=a4p) (a3q:=a4q) qr2) ca103 r (.tup (.nil)) r r pu_Ed ?_ r ?_
    ·exact .cons _ _ _ _ (rnOwn (List.Mem.head _) (by first | rfl | simp)) (.cons _ _ _ _ (.pu _ (pu_I _)) (.cons _ _ _ _ (.pu _ (pu_I _)) (.cons _ _ _ _ (.pu _ (pu_fn a4p a4q)) (.nil))))
    refine teq 0 (y:=.own 0 0 2 0 r2.length false) r (by first | (rw [tr2];done) | simp [tr2])<|dn<|at_ret<|?_
    obtain rfl:=sj hy
    exact outO0 (g1:=EdA) r (.inl r) r pu_Ed
   ·refine at_skip<|bkH hy fun o2 hy k2 hk2 hc2=>meetD [1,2,4,10,11,12] [] r r (fun (p:Int × (List Ed))=>match p with | (v3_1,l0_1)=>([(0,.own 0 0 2 0 (l0_1).length false),(3,(I v3_1))],[(0,some (0,.buf 2 (l0_1.map EdA)))],k2 (v3_1,l0_1)=some y)) ?_ ?_
    ·skip
     refine rg r<|cdH r hy (fun hy=>?_) fun hy=>?_
     ·refine reg 5 r<|go 4 r<|bndH hy fun r3 qr3 hy=>?_
      obtain ⟨tr3,hy⟩:=lenI hy
      refine clo1 (s:=0) (w_ex (a3h:=a4h) (a3k:=a4k) (a3l:=a4l) (a3p:=a4p) (a3q:=a4q) qr3) ca104 r (.tup (.nil)) r r pu_Ed ?_ r ?_
      ·exact .cons _ _ _ _ (rnOwn (List.Mem.head _) (by first | rfl | simp)) (.cons _ _ _ _ (.pu _ (pu_I _)) (.cons _ _ _ _ (.pu _ (pu_I _)) (.cons _ _ _ _ (.pu _ (pu_fn a4p a4q)) (.nil))))
      exact teq 0 (y:=.own 0 0 2 0 r3.length false) r (by first | (rw [tr3];done) | simp [tr3])<|dn<|rg1 r<|metD ((w64 (v3_4 - 1)),r3) (lk r) (hk r) r r (sj2 hy hc2)
     ·exact at_skip<|metD (v3_4,l0_4) (lk r) (hk r) r r (sj2 hy hc2)
    ·rintro ⟨v3_1,l0_1⟩ cl hy
     subst hk2
     refine nf r r<|reg 10 r<|go 4 r<|bndH hy fun r4 qr4 hy=>clo1 (g1:=EdA) (l:=l0_1) (l':=l0_1) (s:=0) (ys:=[.own 0 0 2 0 l0_1.length false,_,_,_]) (lend (w_eF (a3h:=a4h) (a3k:=a4k) (a3l:=a4l) (a3p:=a4p) (a3q:=a4q) qr4) (.cons _ _ _ _ (rn_own (List.Mem.head _) (pu_map pu_Ed _) (by simp)) (.cons _ _ _ _ (.pu _ (pu_I _)) (.cons _ _ _ _ (.pu _ (pu_I _)) (.cons _ _ _ _ (.pu _ (pu_fn a4p a4q)) (.nil))))) (sc_t (xs:=[.int .i64 r4.1,.int .i64 r4.2]))) ca105 r (.tup (.cons (pu_I _) (.cons (pu_I _) (.nil)))) r r pu_Ed ?_ r ?_
     ·exact .cons _ _ _ _ (rnOwn (List.Mem.head _) (by first | rfl | simp)) (.cons _ _ _ _ (.pu _ (pu_I _)) (.cons _ _ _ _ (.pu _ (pu_I _)) (.cons _ _ _ _ (.pu _ (pu_fn a4p a4q)) (.nil))))
     refine go 5 r<|dn<|bkH hy fun o3 hy k3 hk3 hc3=>meetD [1,2,3,4,10,11,12] [] r r (fun (p:Int × Int × (List Ed))=>match p with | (v13_2,v14_2,l0_2)=>([(0,.own 0 0 2 0 (l0_2).length false),(13,(I v13_2)),(14,(I v14_2))],[(0,some (0,.buf 2 (l0_2.map EdA)))],k3 (v13_2,v14_2,l0_2)=some y)) ?_ ?_
     ·skip
      refine rg r<|cdH r hy (fun hy=>?_) fun hy=>?_
      ·refine reg 5 r<|go 4 r<|bndH hy fun r5 qr5 hy=>?_
       obtain ⟨tr5,hy⟩:=lenI hy
       refine clo1 (s:=0) (w_eE (a3h:=a4h) (a3k:=a4k) (a3l:=a4l) (a3p:=a4p) (a3q:=a4q) qr5) ca106 r (.tup (.nil)) r r pu_Ed ?_ r ?_
       ·exact .cons _ _ _ _ (rnOwn (List.Mem.head _) (by first | rfl | simp)) (.cons _ _ _ _ (.pu _ (pu_I _)) (.cons _ _ _ _ (.pu _ (pu_I _)) (.cons _ _ _ _ (.pu _ (pu_fn a4p a4q)) (.nil))))
       exact teq 0 (y:=.own 0 0 2 0 r5.length false) r (by first | (rw [tr5];done) | simp [tr5])<|dn<|rg r<|rg1 r<|metD ((w64 ((w64 (v2_4 - 1)) - (w64 (r4.1 - v1_4)))),1,r5) (lk r) (hk r) r r (sj2 hy hc3)
      ·exact at_skip<|metD (r4.1,r4.2,l0_1) (lk r) (hk r) r r (sj2 hy hc3)
     ·rintro ⟨v13_2,v14_2,l0_2⟩ cl hy
      subst hk3
      refine nf r r<|bkH hy fun o4 hy k4 hk4 hc4=>meetD [1,2,3,4,10,11,12,13] [] r r (fun (p:(List Ed))=>match p with | l0_3=>([(0,.own 0 0 2 0 (l0_3).length false)],[(0,some (0,.buf 2 (l0_3.map EdA)))],k4 (.inl l0_3)=some y)) ?_ ?_
      ·skip
       refine reg 8 r<|go 2 r<|casH 69 r hy (fun hy=>?_) fun hy=>?_
       ·refine go 3 r<|casH 72 r hy (fun hy=>?_) fun hy=>?_
        ·refine go 3 r<|dn<|cdH r hy (fun hy=>?_) fun hy=>?_
         ·refine reg 5 r<|go 4 r<|bndH hy fun r6 qr6 hy=>?_
          obtain ⟨tr6,hy⟩:=lenI hy
          refine clo1 (s:=0) (w_dO (a3h:=a4h) (a3k:=a4k) (a3l:=a4l) (a3p:=a4p) (a3q:=a4q) qr6) ca107 r (.one (pu_B _)) r r pu_Ed ?_ r ?_
          ·exact .cons _ _ _ _ (rnOwn (List.Mem.head _) (by first | rfl | simp)) (.cons _ _ _ _ (.pu _ (pu_I _)) (.cons _ _ _ _ (.pu _ (pu_I _)) (.cons _ _ _ _ (.pu _ (pu_fn a4p a4q)) (.nil))))
          refine teq 0 (y:=.own 0 0 2 0 r6.2.length false) r (by first | (rw [tr6];done) | simp [tr6])<|dn<|cdH r hy (fun hy=>?_) fun hy=>?_
          ·refine at_ret<|?_
           obtain rfl:=sj hy
           subst hk4;obtain rfl:=sj hc4
           exact outO0 (g1:=EdA) r (.inl r) r pu_Ed
          ·exact at_skip<|metD r6.2 (lk r) (hk r) r r (sj2 hy hc4)
         ·exact at_skip<|metD l0_2 (lk r) (hk r) r r (sj2 hy hc4)
        ·exact go 3 r<|dn<|cdf r<|at_skip<|metD l0_2 (lk r) (hk r) r r (sj2 hy hc4)
       ·exact go 6 r<|dn<|cdf r<|at_skip<|metD l0_2 (lk r) (hk r) r r (sj2 hy hc4)
      ·rintro l0_3 cl hy
       subst hk4
       refine nf r r<|at_seq<|regd mixed 17 r<|go 3 r<|casH 83 r hy (fun hy=>?_) fun hy=>?_
       ·refine go 4 r<|bdH hy fun i7 qi7 bi7 hy=>gtH hy fun v8 xv8 hy=>ixP' sl41 qi7 bi7 r r r r<|ldP (f:=EdA) tk47 xv8 r r r r r<|go 2 r<|bdH hy fun i9 qi9 bi9 hy=>gtH hy fun v10 xv10 hy=>ixP' sl41 qi9 bi9 r r r r<|ldP (f:=EdA) tk47 xv10 r r r r r<|bndH hy fun r11 qr11 hy=>clv (a4h qr11) a4k r r r r a4l (puL3 a4p (.cons (pu_Ed _) (.cons (pu_Ed _) (.nil))) a4q) (.one (pu_I _)) r<|go 3 r<|dn ⟨by kernel_rfl,?_⟩
        refine cdH r hy (fun hy=>?_) fun hy=>?_
        ·refine reg 7 r<|go 5 r<|bndH hy fun r12 qr12 hy=>?_
         obtain ⟨tr12,hy⟩:=lenI hy
         refine clo1 (s:=0) (w_ej (a4h:=a4h) (a4k:=a4k) (a4l:=a4l) (a4p:=a4p) (a4q:=a4q) qr12) ca108 r (.one (pu_I _)) r r pu_Ed ?_ r ?_
         ·exact .cons _ _ _ _ (rnOwn (List.Mem.head _) (by first | rfl | simp)) (.cons _ _ _ _ (.pu _ (pu_I _)) (.cons _ _ _ _ (.pu _ (pu_I _)) (.cons _ _ _ _ (.pu _ (pu_I _)) (.cons _ _ _ _ (.pu _ (pu_fn a4p a4q)) (.nil)))))
         refine teq 0 (y:=.own 0 0 2 0 r12.2.length false) r (by first | (rw [tr12];done) | simp [tr12])<|go 1 r<|dn<|rg r<|at_exit<|at_te<|at_inBlock<|againD (n1,r12.1,v2_4,v3_1,v10_4,v11_4,r12.2) (lk r) (hk r) r r hy r
        ·refine at_skip<|reg 11 r<|go 5 r<|bndH hy fun r13 qr13 hy=>?_
         obtain ⟨tr13,hy⟩:=lenI hy
         refine clo1 (s:=0) (w_df (a4h:=a4h) (a4k:=a4k) (a4l:=a4l) (a4p:=a4p) (a4q:=a4q) qr13) ca109 r (.tup (.cons (pu_I _) (.cons (pu_B _) (.nil)))) r r pu_Ed ?_ r ?_
         ·exact .cons _ _ _ _ (rnOwn (List.Mem.head _) (by first | rfl | simp)) (.cons _ _ _ _ (.pu _ (pu_I _)) (.cons _ _ _ _ (.pu _ (pu_I _)) (.cons _ _ _ _ (.pu _ (pu_I _)) (.cons _ _ _ _ (.pu _ (pu_fn a4p a4q)) (.nil)))))
         refine teq 0 (y:=.own 0 0 2 0 r13.2.2.length false) r (by first | (rw [tr13];done) | simp [tr13])<|go 5 r<|dn<|rg r<|rg r<|reg 3 r<|go 1 r<|dv r r r r (by decide)<|go 1 r<|dn<|rg r<|cdH r hy (fun hy=>?_) fun hy=>?_
         ·refine rg r<|reg 6 r<|go 5 r<|bndH hy fun r14 qr14 hy=>?_
          obtain ⟨tr14,hy⟩:=lenI hy
          refine clo1 (s:=0) (ih qr14) ca83 r (.tup (.nil)) r r pu_Ed ?_ r ?_
          ·exact .cons _ _ _ _ (rnOwn (List.Mem.head _) (by first | rfl | simp)) (.cons _ _ _ _ (.pu _ (pu_I _)) (.cons _ _ _ _ (.pu _ (pu_I _)) (.cons _ _ _ _ (.pu _ (pu_I _)) (.cons _ _ _ _ (.pu _ (pu_fn a4p a4q)) (.nil)))))
          refine teq 0 (y:=.own 0 0 2 0 r14.length false) r (by first | (rw [tr14];done) | simp [tr14])<|dn<|rg1 r<|at_bn<|againD (n1,(w64 (r13.1+1)),v2_4,v3_1,(decide ((w64 (r13.1 - v1_4))≥(w64 (Int.tdiv (w64 (v2_4 - v1_4)) 8)))),r13.2.1,r14) (lk r) (hk r) r r hy r
         ·refine rg r<|reg 7 r<|go 6 r<|bndH hy fun r15 qr15 hy=>?_
          obtain ⟨tr15,hy⟩:=lenI hy
          refine clo1 (s:=0) (ih qr15) ca83 r (.tup (.nil)) r r pu_Ed ?_ r ?_
          ·exact .cons _ _ _ _ (rnOwn (List.Mem.head _) (by first | rfl | simp)) (.cons _ _ _ _ (.pu _ (pu_I _)) (.cons _ _ _ _ (.pu _ (pu_I _)) (.cons _ _ _ _ (.pu _ (pu_I _)) (.cons _ _ _ _ (.pu _ (pu_fn a4p a4q)) (.nil)))))
          refine teq 0 (y:=.own 0 0 2 0 r15.length false) r (by first | (rw [tr15];done) | simp [tr15])<|dn<|rg1 r<|at_bn<|againD (n1,v1_4,r13.1,v3_1,(decide ((w64 (v2_4 - r13.1))≥(w64 (Int.tdiv (w64 (v2_4 - v1_4)) 8)))),r13.2.1,r15) (lk r) (hk r) r r hy r
       ·refine go 14 r<|dn ⟨by kernel_rfl,?_⟩
        refine cdf r<|at_skip<|reg 11 r<|go 5 r<|bndH hy fun r16 qr16 hy=>?_
        obtain ⟨tr16,hy⟩:=lenI hy
        refine clo1 (s:=0) (w_df (a4h:=a4h) (a4k:=a4k) (a4l:=a4l) (a4p:=a4p) (a4q:=a4q) qr16) ca109 r (.tup (.cons (pu_I _) (.cons (pu_B _) (.nil)))) r r pu_Ed ?_ r ?_
        ·exact .cons _ _ _ _ (rnOwn (List.Mem.head _) (by first | rfl | simp)) (.cons _ _ _ _ (.pu _ (pu_I _)) (.cons _ _ _ _ (.pu _ (pu_I _)) (.cons _ _ _ _ (.pu _ (pu_I _)) (.cons _ _ _ _ (.pu _ (pu_fn a4p a4q)) (.nil)))))
        refine teq 0 (y:=.own 0 0 2 0 r16.2.2.length false) r (by first | (rw [tr16];done) | simp [tr16])<|go 5 r<|dn<|rg r<|rg r<|reg 3 r<|go 1 r<|dv r r r r (by decide)<|go 1 r<|dn<|rg r<|cdH r hy (fun hy=>?_) fun hy=>?_
        ·refine rg r<|reg 6 r<|go 5 r<|bndH hy fun r17 qr17 hy=>?_
         obtain ⟨tr17,hy⟩:=lenI hy
         refine clo1 (s:=0) (ih qr17) ca83 r (.tup (.nil)) r r pu_Ed ?_ r ?_
         ·exact .cons _ _ _ _ (rnOwn (List.Mem.head _) (by first | rfl | simp)) (.cons _ _ _ _ (.pu _ (pu_I _)) (.cons _ _ _ _ (.pu _ (pu_I _)) (.cons _ _ _ _ (.pu _ (pu_I _)) (.cons _ _ _ _ (.pu _ (pu_fn a4p a4q)) (.nil)))))
         refine teq 0 (y:=.own 0 0 2 0 r17.length false) r (by first | (rw [tr17];done) | simp [tr17])<|dn<|rg1 r<|at_bn<|againD (n1,(w64 (r16.1+1)),v2_4,v3_1,(decide ((w64 (r16.1 - v1_4))≥(w64 (Int.tdiv (w64 (v2_4 - v1_4)) 8)))),r16.2.1,r17) (lk r) (hk r) r r hy r
        ·refine rg r<|reg 7 r<|go 6 r<|bndH hy fun r18 qr18 hy=>?_
         obtain ⟨tr18,hy⟩:=lenI hy
         refine clo1 (s:=0) (ih qr18) ca83 r (.tup (.nil)) r r pu_Ed ?_ r ?_
         ·exact .cons _ _ _ _ (rnOwn (List.Mem.head _) (by first | rfl | simp)) (.cons _ _ _ _ (.pu _ (pu_I _)) (.cons _ _ _ _ (.pu _ (pu_I _)) (.cons _ _ _ _ (.pu _ (pu_I _)) (.cons _ _ _ _ (.pu _ (pu_fn a4p a4q)) (.nil)))))
         refine teq 0 (y:=.own 0 0 2 0 r18.length false) r (by first | (rw [tr18];done) | simp [tr18])<|dn<|rg1 r<|at_bn<|againD (n1,v1_4,r16.1,v3_1,(decide ((w64 (v2_4 - r16.1))≥(w64 (Int.tdiv (w64 (v2_4 - v1_4)) 8)))),r16.2.1,r18) (lk r) (hk r) r r hy r
theorem w_fg {K:Nat}{a0:(List Ed)}{a1:Int}{a2:Int}{a3:Int}{a4:(Ed→Ed→Option Int)}{y:(List Ed)}{a4f:FuncId}{a4s a4c:List AV} (a4h:∀ {x0:Ed}{x1:Ed}{r:Int},a4 x0 x1=some r→Does PP GV a4f [] (a4s++[(EdA x0),(EdA x1)]++a4c) [] [] (I r)) (a4k:callable PP a4f=true) (a4l:a4s.all flat=true∧a4c.all flat=true) (a4p:PuL a4s) (a4q:PuL a4c) (hy:p_ds K a0 a1 a2 a3 a4=some y):Does PP GV 83 [.buf 2 (a0.map EdA)] [.own 0 0 2 0 a0.length false,(I a1),(I a2),(I a3),.fn (.func a4f) a4s a4c] [0] [.buf 2 (y.map EdA)] (.tup []):=w_eU a4h a4k a4l a4p a4q K hy
def p_z (K:Nat) (a0:(List Ed)) (a1:(Ed→Ed→Option Int)):Option (List Ed) :=
 ((p_bp K (IntKind.u64.wrap (a0.length:Int))).bind fun r1=>((p_ds K a0 0 (a0.length:Int) r1 a1).bind fun r2=>lenP a0 r2 (some r2)))
theorem w_c2 {K:Nat}{a0:(List Ed)}{a1:(Ed→Ed→Option Int)}{y:(List Ed)}{a1f:FuncId}{a1s a1c:List AV} (a1h:∀ {x0:Ed}{x1:Ed}{r:Int},a1 x0 x1=some r→Does PP GV a1f [] (a1s++[(EdA x0),(EdA x1)]++a1c) [] [] (I r)) (a1k:callable PP a1f=true) (a1l:a1s.all flat=true∧a1c.all flat=true) (a1p:PuL a1s) (a1q:PuL a1c) (hy:p_z K a0 a1=some y):Does PP GV 56 [.buf 2 (a0.map EdA)] [.own 0 0 2 0 a0.length false,.fn (.func a1f) a1s a1c] [0] [.buf 2 (y.map EdA)] (.tup []):=by
 unfold p_z at hy
 refine does_of at56 r (le_ok r)<|?_
 rintro ⟨_,base,w0,F⟩ rfl
 refine reg 3 r<|go 1 r<|lno slB41 r r r<|go 1 r<|dn<|reg1 7 r<|go 3 r<|rg_conv (gd_of r) (ev_of r) us3 ui76 (lt_ok r)<|bndH hy fun r1 qr1 hy=>clc (w_eA qr1) ca84 r r r<|go 1 r<|bndH hy fun r2 qr2 hy=>?_
 obtain ⟨tr2,hy⟩:=lenI hy
 refine clo1 (s:=0) (w_fg (a4h:=a1h) (a4k:=a1k) (a4l:=a1l) (a4p:=a1p) (a4q:=a1q) qr2) ca83 r (.tup (.nil)) r r pu_Ed ?_ r ?_
 ·exact .cons _ _ _ _ (rnOwn (List.Mem.head _) (by first | rfl | simp)) (.cons _ _ _ _ (.pu _ (pu_I _)) (.cons _ _ _ _ (.pu _ (pu_I _)) (.cons _ _ _ _ (.pu _ (pu_I _)) (.cons _ _ _ _ (.pu _ (pu_fn a1p a1q)) (.nil)))))
 refine teq 0 (y:=.own 0 0 2 0 r2.length false) r (by first | (rw [tr2];done) | simp [tr2])<|dn<|?_
 obtain rfl:=sj hy
 exact outO0 (g1:=EdA) r (.inr r) r pu_Ed
def p_bN (K:Nat)  : Nat→(List Ed)→Int→Int→(Mp Ed Int)→(List Ed)→Option ((Mp Ed Int) × (List Ed))
 | 0,_,_,_,_,_=>none
 | n+1,v23_1,v24_1,v25_1,m1_1,l1006_1=>(bif (decide (v25_1 < v24_1)) then (ixP v23_1 v25_1 fun v4=>(bif (((((m1_1.touch v4 0).set v4 (w64 (((m1_1.get? v4).getD 0)+1))).get? v4).getD 0) == 1) then (apP 16 l1006_1.length [v4].length (p_bN K  n v23_1 v24_1 (w64 (v25_1+1)) ((m1_1.touch v4 0).set v4 (w64 (((m1_1.get? v4).getD 0)+1))) (l1006_1++[v4]))) else p_bN K  n v23_1 v24_1 (w64 (v25_1+1)) ((m1_1.touch v4 0).set v4 (w64 (((m1_1.get? v4).getD 0)+1))) l1006_1)) else some (m1_1,l1006_1))
def p_ce (K:Nat) (a1:(List Int)) (a0:Seek_tree_):Nat→Int→(Mp Ed Int)→(List Ed)→Option (List Ed)
 | 0,_,_,_=>none
 | n+1,v14_3,m1_3,l1006_3=>(bif (decide (v14_3 < (a1.length:Int))) then (((ixP a1 v14_3 fun v2=>p_bN K  K ((a0.outside.get? v2).getD []) (((a0.outside.get? v2).getD []).length:Int) 0 m1_3 l1006_3):Option ((Mp Ed Int) × (List Ed))).bind fun (m1_2,l1006_2)=>p_ce K a1 a0 n (w64 (v14_3+1)) m1_2 l1006_2) else some l1006_3)
def p_dm (K:Nat) (a0:Seek_tree_) (a1:(List Int)):Option (List Ed) :=
 ((p_ce K a1 a0 K 0 (Mp.empty:(Mp Ed Int)) []:Option (List Ed)).bind fun l1006_4=>((p_z K l1006_4 (fun (x0:Ed) (x1:Ed)=>p_cJ K x0 x1)).bind fun r6=>lenP l1006_4 r6 (some r6)))
theorem w_f6 {K:Nat}{a0:Seek_tree_}{a1:(List Int)}{y:(List Ed)} (hy:p_dm K a0 a1=some y):Does PP GV 30 [] [((FP Seek_tree_A) a0),((SL 1 I) a1)] [] [] ((SL 2 EdA) y):=by
 unfold p_dm at hy
 refine does_of at30 r (le_ok r)<|?_
 rintro ⟨_,base,w0,F⟩ rfl
 refine rg r<|reg 2 r<|mkM (κ:=Ed) (ν:=Int) EdK I 1 r r<|go 1 r<|dn<|rg r<|bkH hy fun o1 hy k1 hk1 hc1=>meetD [] [] r r (fun (p:(List Ed) × Nat)=>match p with | (l1006_4,g1006_1)=>([(6,.own 1006 g1006_1 2 0 (l1006_4).length false)],[(1006,some (g1006_1,.buf 2 (l1006_4.map EdA)))],k1 l1006_4=some y)) ?_ ?_
 ·skip
  refine reg 3 r<|go 1 r<|lnf (f:=I) slB29 r r r<|go 1 r<|dn<|at_block<|niloP (EdA) 6 1006 2 r<|loopD [0,12,13] [] r r (fun (p:Nat × Int × (Mp Ed Int) × (List Ed) × Nat × Nat)=>match p with | (n2,v14_3,m1_3,l1006_3,g1_2,g1006_2)=>([(5,.mp 1 g1_2),(6,.own 1006 g1006_2 2 0 (l1006_3).length false),(14,(I v14_3))],[(1,some (g1_2,.map (encM EdK I m1_3))),(1006,some (g1006_2,.buf 2 (l1006_3.map EdA)))],p_ce K a1 a0 n2 v14_3 m1_3 l1006_3=some o1)) (K,0,(Mp.empty:(Mp Ed Int)),[],_,_) (lk r) (hk r) hy<|?_
  rintro ⟨n2,v14_3,m1_3,l1006_3,g1_2,g1006_2⟩ cl hy
  obtain _ | n2:=n2;· cases hy
  refine nf r r<|?_
  replace hy:_=some _:=hy
  rw [p_ce] at hy
  refine rg r<|at_seq<|cdH r hy (fun hy=>?_) fun hy=>?_
  ·refine at_skip<|bkH hy fun o3 hy k3 hk3 hc3=>meetD [0,12,13,14] [] r r (fun (p:(Mp Ed Int) × (List Ed) × Nat × Nat)=>match p with | (m1_2,l1006_2,g1_3,g1006_3)=>([(5,.mp 1 g1_3),(6,.own 1006 g1006_3 2 0 (l1006_2).length false)],[(1,some (g1_3,.map (encM EdK I m1_2))),(1006,some (g1006_3,.buf 2 (l1006_2.map EdA)))],k3 (m1_2,l1006_2)=some o1)) ?_ ?_
   ·skip
    refine at_block<|reg 3 r<|ixH hy fun i1 v2 qi1 xv2 hy=>fixP (f:=I) sl29 qi1 xv2 r r r r<|fld tk3 r r r r<|go 1 r<|dn<|reg 8 r<|go 2 r<|ffa fo64_3 r r r<|fld tk62 r r r r<|go 1 r<|lkFZ (ev:=(SL 2 EdA)) (m:=a0.outside) (z0:=[]) (kInt ui3) mt62 zo41 (fun _=>Option.some_ne_none _) nil_lst r r r r r<|lnf (f:=EdA) slB41 r r r<|go 1 r<|dn<|at_block<|loopD [0,12,13,14] [] r r (fun (p:Nat × (List Ed) × Int × Int × (Mp Ed Int) × (List Ed) × Nat × Nat)=>match p with | (n4,v23_1,v24_1,v25_1,m1_1,l1006_1,g1_4,g1006_4)=>([(5,.mp 1 g1_4),(6,.own 1006 g1006_4 2 0 (l1006_1).length false),(23,((SL 2 EdA) v23_1)),(24,(I v24_1)),(25,(I v25_1))],[(1,some (g1_4,.map (encM EdK I m1_1))),(1006,some (g1006_4,.buf 2 (l1006_1.map EdA)))],p_bN K  n4 v23_1 v24_1 v25_1 m1_1 l1006_1=some o3)) (K,((a0.outside.get? v2).getD []),(((a0.outside.get? v2).getD []).length:Int),0,m1_3,l1006_3,_,_) (lk r) (hk r) hy<|?_
    rintro ⟨n4,v23_1,v24_1,v25_1,m1_1,l1006_1,g1_4,g1006_4⟩ cl hy
    obtain _ | n4:=n4;· cases hy
    refine nf r r<|?_
    replace hy:_=some _:=hy
    rw [p_bN] at hy
    refine rg r<|at_seq<|cdH r hy (fun hy=>?_) fun hy=>?_
    ·refine at_skip<|at_seq<|at_block<|reg 4 r<|ixH hy fun i3 v4 qi3 xv4 hy=>fixP (f:=EdA) sl41 qi3 xv4 r r r r<|fldw tk47 r r r r<|rg_alloc (s:=2) (gd_of r) zc47 (elems_one (by rfl)) (lt_ok r)<|str tk47 r r r r r r r<|dn<|incX (ek:=EdK) (m:=m1_1) (q:=v4) mixed kEd mt95 zo3 r r r ⟨r,r,r⟩ (fun _ _ _ h=>ldw tk47 r r r r r r (dn h)) r r r r<|reg 4 r<|go 1 r<|ldw tk47 r r r r r r<|lkMZ (ev:=I) (m:=((m1_1.touch v4 0).set v4 (w64 (((m1_1.get? v4).getD 0)+1)))) (z0:=0) kEd mt95 zo3 (fun _=>Option.some_ne_none _) (fun _ _ h=>h) r r r r r r<|go 1 r<|dn<|cdH r hy (fun hy=>?_) fun hy=>?_
     ·refine reg1 5 r<|go 1 r<|ldw tk47 r r r r r r<|bldsP EdA ([v4]:List Ed) 3 se41 r r r r r r r<|apH hy fun k5a k5b hy=>apoP (f:=EdA) (l:=l1006_1) (zs:=[v4]) se41 k5a k5b r r r r r r<|go 1 r<|dn<|at_bn<|rg1 r<|againD (n4,v23_1,v24_1,(w64 (v25_1+1)),((m1_1.touch v4 0).set v4 (w64 (((m1_1.get? v4).getD 0)+1))),(l1006_1++[v4]),_,_) (lk r) (hk r) r r hy r
     ·refine at_skip<|at_bn<|rg1 r<|againD (n4,v23_1,v24_1,(w64 (v25_1+1)),((m1_1.touch v4 0).set v4 (w64 (((m1_1.get? v4).getD 0)+1))),l1006_1,_,_) (lk r) (hk r) r r hy r
    ·exact at_exit<|at_te<|at_te<|at_inBlock<|at_bn<|metD (m1_1,l1006_1,_,_) (lk r) (hk r) r r (sj2 hy hc3)
   ·rintro ⟨m1_2,l1006_2,g1_3,g1006_3⟩ cl hy
    subst hk3
    refine nf r r<|rg1 r<|againD (n2,(w64 (v14_3+1)),m1_2,l1006_2,_,_) (lk r) (hk r) r r hy r
  ·exact at_exit<|at_te<|at_te<|at_inBlock<|metD (l1006_3,_) (lk r) (hk r) r r (sj2 hy hc1)
 ·rintro ⟨l1006_4,g1006_1⟩ cl hy
  subst hk1
  refine nf r r<|reg 2 r<|go 1 r<|bndH hy fun r6 qr6 hy=>?_
  obtain ⟨tr6,hy⟩:=lenI hy
  refine clo1 (s:=1006) (w_c2 (a1h:=fun h=>w_fR h) (a1k:=ca57) (a1l:=⟨r,r⟩) (a1p:=.nil) (a1q:=.nil) qr6) ca56 r (.tup (.nil)) r r pu_Ed ?_ r ?_
  ·exact .cons _ _ _ _ (rnOwn (List.Mem.head _) (by first | rfl | simp)) (.cons _ _ _ _ (.pu _ (pu_fn (.nil) (.nil))) (.nil))
  refine teq 6 (y:=.own 1006 _ 2 0 r6.length false) r (by first | (rw [tr6];done) | simp [tr6])<|dn<|rg r<|at_ret<|frzP (f:=EdA) (l:=r6) 4 1006 r r pu_Ed<|?_
  obtain rfl:=sj hy
  exact eR r r
def p_cF (K:Nat)  : Nat→(List Ed)→Int→Int→(Mp Ed Int)→(List Ed)→Option ((Mp Ed Int) × (List Ed))
 | 0,_,_,_,_,_=>none
 | n+1,v23_1,v24_1,v25_1,m1_1,l1006_1=>(bif (decide (v25_1 < v24_1)) then (ixP v23_1 v25_1 fun v4=>(bif (((((m1_1.touch v4 0).set v4 (w64 (((m1_1.get? v4).getD 0)+1))).get? v4).getD 0) == 1) then (apP 16 l1006_1.length [v4].length (p_cF K  n v23_1 v24_1 (w64 (v25_1+1)) ((m1_1.touch v4 0).set v4 (w64 (((m1_1.get? v4).getD 0)+1))) (l1006_1++[v4]))) else p_cF K  n v23_1 v24_1 (w64 (v25_1+1)) ((m1_1.touch v4 0).set v4 (w64 (((m1_1.get? v4).getD 0)+1))) l1006_1)) else some (m1_1,l1006_1))
def p_dB (K:Nat) (a1:(List Int)) (a0:Seek_tree_):Nat→Int→(Mp Ed Int)→(List Ed)→Option (List Ed)
 | 0,_,_,_=>none
 | n+1,v14_3,m1_3,l1006_3=>(bif (decide (v14_3 < (a1.length:Int))) then (((ixP a1 v14_3 fun v2=>p_cF K  K ((a0.outside.get? v2).getD []) (((a0.outside.get? v2).getD []).length:Int) 0 m1_3 l1006_3):Option ((Mp Ed Int) × (List Ed))).bind fun (m1_2,l1006_2)=>p_dB K a1 a0 n (w64 (v14_3+1)) m1_2 l1006_2) else some l1006_3)
def p_fh (K:Nat) (a0:Seek_tree_) (a1:(List Int)):Option (List Ed) :=
 ((p_dB K a1 a0 K 0 (Mp.empty:(Mp Ed Int)) []:Option (List Ed)).bind fun l1006_4=>((p_z K l1006_4 (fun (x0:Ed) (x1:Ed)=>p_cJ K x0 x1)).bind fun r6=>lenP l1006_4 r6 (some r6)))
theorem w_gx {K:Nat}{a0:Seek_tree_}{a1:(List Int)}{y:(List Ed)} (hy:p_fh K a0 a1=some y):Does PP GV 30 [] [((FP Seek_tree_A) a0),((SL 1 I) a1)] [] [.buf 2 (y.map EdA)] (.own 0 0 2 0 y.length false):=by
 unfold p_fh at hy
 refine does_of at30 r (le_ok r)<|?_
 rintro ⟨_,base,w0,F⟩ rfl
 refine rg r<|reg 2 r<|mkM (κ:=Ed) (ν:=Int) EdK I 1 r r<|go 1 r<|dn<|rg r<|bkH hy fun o1 hy k1 hk1 hc1=>meetD [] [] r r (fun (p:(List Ed) × Nat)=>match p with | (l1006_4,g1006_1)=>([(6,.own 1006 g1006_1 2 0 (l1006_4).length false)],[(1006,some (g1006_1,.buf 2 (l1006_4.map EdA)))],k1 l1006_4=some y)) ?_ ?_
 ·skip
  refine reg 3 r<|go 1 r<|lnf (f:=I) slB29 r r r<|go 1 r<|dn<|at_block<|niloP (EdA) 6 1006 2 r<|loopD [0,12,13] [] r r (fun (p:Nat × Int × (Mp Ed Int) × (List Ed) × Nat × Nat)=>match p with | (n2,v14_3,m1_3,l1006_3,g1_2,g1006_2)=>([(5,.mp 1 g1_2),(6,.own 1006 g1006_2 2 0 (l1006_3).length false),(14,(I v14_3))],[(1,some (g1_2,.map (encM EdK I m1_3))),(1006,some (g1006_2,.buf 2 (l1006_3.map EdA)))],p_dB K a1 a0 n2 v14_3 m1_3 l1006_3=some o1)) (K,0,(Mp.empty:(Mp Ed Int)),[],_,_) (lk r) (hk r) hy<|?_
  rintro ⟨n2,v14_3,m1_3,l1006_3,g1_2,g1006_2⟩ cl hy
  obtain _ | n2:=n2;· cases hy
  refine nf r r<|?_
  replace hy:_=some _:=hy
  rw [p_dB] at hy
  refine rg r<|at_seq<|cdH r hy (fun hy=>?_) fun hy=>?_
  ·refine at_skip<|bkH hy fun o3 hy k3 hk3 hc3=>meetD [0,12,13,14] [] r r (fun (p:(Mp Ed Int) × (List Ed) × Nat × Nat)=>match p with | (m1_2,l1006_2,g1_3,g1006_3)=>([(5,.mp 1 g1_3),(6,.own 1006 g1006_3 2 0 (l1006_2).length false)],[(1,some (g1_3,.map (encM EdK I m1_2))),(1006,some (g1006_3,.buf 2 (l1006_2.map EdA)))],k3 (m1_2,l1006_2)=some o1)) ?_ ?_
   ·skip
    refine at_block<|reg 3 r<|ixH hy fun i1 v2 qi1 xv2 hy=>fixP (f:=I) sl29 qi1 xv2 r r r r<|fld tk3 r r r r<|go 1 r<|dn<|reg 8 r<|go 2 r<|ffa fo64_3 r r r<|fld tk62 r r r r<|go 1 r<|lkFZ (ev:=(SL 2 EdA)) (m:=a0.outside) (z0:=[]) (kInt ui3) mt62 zo41 (fun _=>Option.some_ne_none _) nil_lst r r r r r<|lnf (f:=EdA) slB41 r r r<|go 1 r<|dn<|at_block<|loopD [0,12,13,14] [] r r (fun (p:Nat × (List Ed) × Int × Int × (Mp Ed Int) × (List Ed) × Nat × Nat)=>match p with | (n4,v23_1,v24_1,v25_1,m1_1,l1006_1,g1_4,g1006_4)=>([(5,.mp 1 g1_4),(6,.own 1006 g1006_4 2 0 (l1006_1).length false),(23,((SL 2 EdA) v23_1)),(24,(I v24_1)),(25,(I v25_1))],[(1,some (g1_4,.map (encM EdK I m1_1))),(1006,some (g1006_4,.buf 2 (l1006_1.map EdA)))],p_cF K  n4 v23_1 v24_1 v25_1 m1_1 l1006_1=some o3)) (K,((a0.outside.get? v2).getD []),(((a0.outside.get? v2).getD []).length:Int),0,m1_3,l1006_3,_,_) (lk r) (hk r) hy<|?_
    rintro ⟨n4,v23_1,v24_1,v25_1,m1_1,l1006_1,g1_4,g1006_4⟩ cl hy
    obtain _ | n4:=n4;· cases hy
    refine nf r r<|?_
    replace hy:_=some _:=hy
    rw [p_cF] at hy
    refine rg r<|at_seq<|cdH r hy (fun hy=>?_) fun hy=>?_
    ·refine at_skip<|at_seq<|at_block<|reg 4 r<|ixH hy fun i3 v4 qi3 xv4 hy=>fixP (f:=EdA) sl41 qi3 xv4 r r r r<|fldw tk47 r r r r<|rg_alloc (s:=2) (gd_of r) zc47 (elems_one (by rfl)) (lt_ok r)<|str tk47 r r r r r r r<|dn<|incX (ek:=EdK) (m:=m1_1) (q:=v4) mixed kEd mt95 zo3 r r r ⟨r,r,r⟩ (fun _ _ _ h=>ldw tk47 r r r r r r (dn h)) r r r r<|reg 4 r<|go 1 r<|ldw tk47 r r r r r r<|lkMZ (ev:=I) (m:=((m1_1.touch v4 0).set v4 (w64 (((m1_1.get? v4).getD 0)+1)))) (z0:=0) kEd mt95 zo3 (fun _=>Option.some_ne_none _) (fun _ _ h=>h) r r r r r r<|go 1 r<|dn<|cdH r hy (fun hy=>?_) fun hy=>?_
     ·refine reg1 5 r<|go 1 r<|ldw tk47 r r r r r r<|bldsP EdA ([v4]:List Ed) 3 se41 r r r r r r r<|apH hy fun k5a k5b hy=>apoP (f:=EdA) (l:=l1006_1) (zs:=[v4]) se41 k5a k5b r r r r r r<|go 1 r<|dn<|at_bn<|rg1 r<|againD (n4,v23_1,v24_1,(w64 (v25_1+1)),((m1_1.touch v4 0).set v4 (w64 (((m1_1.get? v4).getD 0)+1))),(l1006_1++[v4]),_,_) (lk r) (hk r) r r hy r
     ·refine at_skip<|at_bn<|rg1 r<|againD (n4,v23_1,v24_1,(w64 (v25_1+1)),((m1_1.touch v4 0).set v4 (w64 (((m1_1.get? v4).getD 0)+1))),l1006_1,_,_) (lk r) (hk r) r r hy r
    ·exact at_exit<|at_te<|at_te<|at_inBlock<|at_bn<|metD (m1_1,l1006_1,_,_) (lk r) (hk r) r r (sj2 hy hc3)
   ·rintro ⟨m1_2,l1006_2,g1_3,g1006_3⟩ cl hy
    subst hk3
    refine nf r r<|rg1 r<|againD (n2,(w64 (v14_3+1)),m1_2,l1006_2,_,_) (lk r) (hk r) r r hy r
  ·exact at_exit<|at_te<|at_te<|at_inBlock<|metD (l1006_3,_) (lk r) (hk r) r r (sj2 hy hc1)
 ·rintro ⟨l1006_4,g1006_1⟩ cl hy
  subst hk1
  refine nf r r<|reg 2 r<|go 1 r<|bndH hy fun r6 qr6 hy=>?_
  obtain ⟨tr6,hy⟩:=lenI hy
  refine clo1 (s:=1006) (w_c2 (a1h:=fun h=>w_fR h) (a1k:=ca57) (a1l:=⟨r,r⟩) (a1p:=.nil) (a1q:=.nil) qr6) ca56 r (.tup (.nil)) r r pu_Ed ?_ r ?_
  ·exact .cons _ _ _ _ (rnOwn (List.Mem.head _) (by first | rfl | simp)) (.cons _ _ _ _ (.pu _ (pu_fn (.nil) (.nil))) (.nil))
  refine teq 6 (y:=.own 1006 _ 2 0 r6.length false) r (by first | (rw [tr6];done) | simp [tr6])<|dn<|rg r<|at_ret<|?_
  obtain rfl:=sj hy
  exact outN (g1:=EdA) r (.inl r) r r pu_Ed
def p_bx (K:Nat) (a0:Seek_tree_) (a1:Int):Option Bool :=
 (bif (decide (a1 < a0.n)) then some (decide ((((a0.outside.get? a1).getD []).length:Int) > 0)) else some false)
theorem w_fD {K:Nat}{a0:Seek_tree_}{a1:Int}{y:Bool} (hy:p_bx K a0 a1=some y):Does PP GV 20 [] [((FP Seek_tree_A) a0),(I a1)] [] [] (B y):=by
 unfold p_bx at hy
 refine does_of at20 r (le_ok r)<|?_
 rintro ⟨_,base,w0,F⟩ rfl
 refine rg r<|reg 17 r<|go 3 r<|ffa fo64_0 r r r<|fld tk3 r r r r<|go 2 r<|casH 11 r hy (fun hy=>?_) fun hy=>?_
 ·refine go 2 r<|ffa fo64_3 r r r<|fld tk62 r r r r<|go 1 r<|lkFZ (ev:=(SL 2 EdA)) (m:=a0.outside) (z0:=[]) (kInt ui3) mt62 zo41 (fun _=>Option.some_ne_none _) nil_lst r r r r r<|lnf (f:=EdA) slB41 r r r<|go 3 r<|dn<|at_ret<|?_
  obtain rfl:=sj hy
  exact eR r r
 ·refine go 10 r<|dn<|at_ret<|?_
  obtain rfl:=sj hy
  exact eR r r
def p_b5 (K:Nat) (a0:Int) (a1:Seek_tree_):Option Bool :=
 ((p_bx K a1 a0).bind fun r1=>some (!r1))
theorem w_f8 {K:Nat}{a0:Int}{a1:Seek_tree_}{y:Bool} (hy:p_b5 K a0 a1=some y):Does PP GV 55 [] [(I a0),((FP (FP Seek_tree_A)) a1)] [] [] (B y):=by
 unfold p_b5 at hy
 refine does_of at55 r (le_ok r)<|?_
 rintro ⟨_,base,w0,F⟩ rfl
 refine rg r<|reg 5 r<|fld tk56 r r r r<|go 1 r<|bndH hy fun r1 qr1 hy=>clc (w_fD qr1) ca20 r r r<|go 2 r<|dn<|at_ret<|?_
 obtain rfl:=sj hy
 exact eR r r
def p_J (K:Nat) (a0:(List Int)):Option (List Int) :=
 (guP (0 < a0.length) ((apP 8 ([]:List Int).length a0.length (some (([]:List Int)++a0)))))
theorem w_eS {K:Nat}{a0:(List Int)}{y:(List Int)} (hy:p_J K a0=some y):Does PP GV 41 [] [((SL 1 I) a0)] [] [] ((SL 1 I) y):=by
 unfold p_J at hy
 refine does_of at41 r (le_ok r)<|?_
 rintro ⟨_,base,w0,F⟩ rfl
 refine rg r<|at_seq<|reg 2 r<|go 1 r<|guH hy fun k1 hy=>eqN (f:=I) (l:=a0) sl29 k1 r r r<|dn<|cdf r<|at_skip<|reg 4 r<|bldsP I ([]:List Int) 1 se29 r r r r r r r<|go 1 r<|apH hy fun k2a k2b hy=>aplP (f:=I) (l:=([]:List Int)) (zs:=a0) se29 k2a k2b r r r r r<|go 1 r<|dn<|at_ret<|frzP (f:=I) (l:=(([]:List Int)++a0)) 2 1 r r pu_I<|?_
 obtain rfl:=sj hy
 exact eR r r
def p_cA (K:Nat) (a0:(List Int)):Option (List Int) :=
 (guP (0 < a0.length) ((apP 8 ([]:List Int).length a0.length (some (([]:List Int)++a0)))))
theorem w_fM {K:Nat}{a0:(List Int)}{y:(List Int)} (hy:p_cA K a0=some y):Does PP GV 41 [] [((SL 1 I) a0)] [] [.buf 1 (y.map I)] (.own 0 0 1 0 y.length false):=by
 unfold p_cA at hy
 refine does_of at41 r (le_ok r)<|?_
 rintro ⟨_,base,w0,F⟩ rfl
 refine rg r<|at_seq<|reg 2 r<|go 1 r<|guH hy fun k1 hy=>eqN (f:=I) (l:=a0) sl29 k1 r r r<|dn<|cdf r<|at_skip<|reg 4 r<|bldsP I ([]:List Int) 1 se29 r r r r r r r<|go 1 r<|apH hy fun k2a k2b hy=>aplP (f:=I) (l:=([]:List Int)) (zs:=a0) se29 k2a k2b r r r r r<|go 1 r<|dn<|at_ret<|?_
 obtain rfl:=sj hy
 exact outN (g1:=I) r (.inl r) r r pu_I
def p_c (K:Nat) (a0:(List Int)) (a1:(Int→Option Bool)):Nat→Int→Option (Sum Unit Int)
 | 0,_=>none
 | n+1,v8_1=>(bif (decide (v8_1 < (a0.length:Int))) then (ixP a0 v8_1 fun v2=>((a1 v2).bind fun r3=>(bif r3 then some (.inr v8_1) else p_c K a0 a1 n (w64 (v8_1+1))))) else some (.inl ()))
def p_A (K:Nat) (a0:(List Int)) (a1:(Int→Option Bool)):Option Int :=
 ((p_c K a0 a1 K 0:Option (Sum Unit Int)).bind fun | .inl _=>some (-1) | .inr r=>some r)
theorem w_ec {K:Nat}{a0:(List Int)}{a1:(Int→Option Bool)}{y:Int}{a1f:FuncId}{a1s a1c:List AV} (a1h:∀ {x0:Int}{r:Bool},a1 x0=some r→Does PP GV a1f [] (a1s++[(I x0)]++a1c) [] [] (B r)) (a1k:callable PP a1f=true) (a1l:a1s.all flat=true∧a1c.all flat=true) (a1p:PuL a1s) (a1q:PuL a1c) (hy:p_A K a0 a1=some y):Does PP GV 68 [] [((SL 1 I) a0),.fn (.func a1f) a1s a1c] [] [] (I y):=by
 unfold p_A at hy
 refine does_of at68 r (le_ok r)<|?_
 rintro ⟨_,base,w0,F⟩ rfl
 refine rg r<|bkH hy fun o1 hy k1 hk1 hc1=>meetD [] [] r r (fun (p:Unit)=>match p with | _=>([],[],k1 (.inl ())=some y)) ?_ ?_
 ·skip
  refine reg 3 r<|go 1 r<|lnf (f:=I) slB29 r r r<|go 1 r<|dn<|at_block<|loopD [0,1,7] [] r r (fun (p:Nat × Int)=>match p with | (n2,v8_1)=>([(8,(I v8_1))],[],p_c K a0 a1 n2 v8_1=some o1)) (K,0) (lk r) .nil hy<|?_
  rintro ⟨n2,v8_1⟩ cl hy
  obtain _ | n2:=n2;· cases hy
  refine nf r r<|?_
  replace hy:_=some _:=hy
  rw [p_c] at hy
  refine rg r<|at_seq<|cdH r hy (fun hy=>?_) fun hy=>?_
  ·refine at_skip<|at_seq<|at_block<|rg r<|reg 6 r<|go 3 r<|ixH hy fun i1 v2 qi1 xv2 hy=>fixP (f:=I) sl29 qi1 xv2 r r r r<|fld tk3 r r r r<|bndH hy fun r3 qr3 hy=>clv (a1h qr3) a1k r r r r a1l (puL3 a1p (.cons (pu_I _) (.nil)) a1q) (.one (pu_B _)) r<|dn<|cdH r hy (fun hy=>?_) fun hy=>?_
   ·refine rg r<|at_ret<|?_
    obtain rfl:=sj hy
    subst hk1;obtain rfl:=sj hc1
    exact eR r r
   ·refine at_skip<|at_bn<|rg1 r<|againD (n2,(w64 (v8_1+1))) (lk r) .nil r r hy r
  ·exact at_exit<|at_te<|at_te<|at_inBlock<|metD () .nil .nil r r (sj2 hy hc1)
 ·rintro ⟨⟩ cl hy
  subst hk1
  refine nf r r<|rg r<|at_ret<|?_
  obtain rfl:=sj hy
  exact eR r r
def p_h (K:Nat) (a1:(Int→Option Bool)):Nat→Int→Int→(List Int)→Option (Int × (List Int))
 | 0,_,_,_=>none
 | n+1,v5_1,v6_1,l0_1=>(bif (decide (v6_1 < (l0_1.length:Int))) then (bdP l0_1.length v6_1 fun i2=>gtP l0_1 i2 fun v3=>((a1 v3).bind fun r4=>(bif (!r4) then (bdP l0_1.length v5_1 fun i5=>gtP l0_1 i5 fun v6=>p_h K a1 n (w64 (v5_1+1)) (w64 (v6_1+1)) (l0_1.set i5 v3)) else p_h K a1 n v5_1 (w64 (v6_1+1)) l0_1))) else some (v5_1,l0_1))
def p_bm (K:Nat) (a0:(List Int)) (a1:(Int→Option Bool)):Option (Nat × (List Int)) :=
 ((p_A K a0 a1).bind fun r1=>(bif (r1 == (-1)) then some (a0.length,a0) else ((p_h K a1 K r1 (w64 (r1+1)) a0:Option (Int × (List Int))).bind fun (v5_2,l0_2)=>(bdP (l0_2.length+1) v5_2 fun i7=>(guP (i7+(l0_2.length - i7)≤l0_2.length) ((bdP (l0_2.length+1) v5_2 fun i9=>some (i9,(l0_2.take i7)))))))))
theorem w_fw {K:Nat}{a0:(List Int)}{a1:(Int→Option Bool)}{y:(Nat × (List Int))}{a1f:FuncId}{a1s a1c:List AV} (a1h:∀ {x0:Int}{r:Bool},a1 x0=some r→Does PP GV a1f [] (a1s++[(I x0)]++a1c) [] [] (B r)) (a1k:callable PP a1f=true) (a1l:a1s.all flat=true∧a1c.all flat=true) (a1p:PuL a1s) (a1q:PuL a1c) (hy:p_bm K a0 a1=some y):Does PP GV 54 [.buf 1 (a0.map I)] [.own 0 0 1 0 a0.length false,.fn (.func a1f) a1s a1c] [0] [.buf 1 (y.2.map I)] (.own 0 0 1 0 y.1 false):=by
 unfold p_bm at hy
 refine does_of at54 r (le_ok r)<|?_
 rintro ⟨_,base,w0,F⟩ rfl
 refine rg r<|reg 4 r<|go 2 r<|bndH hy fun r1 qr1 hy=>clo1 (g1:=I) (l:=a0) (l':=a0) (s:=0) (ys:=[.own 0 0 1 0 a0.length false,_]) (lend (w_ec (a1h:=a1h) (a1k:=a1k) (a1l:=a1l) (a1p:=a1p) (a1q:=a1q) qr1) (.cons _ _ _ _ (rn_own (List.Mem.head _) (pu_map pu_I _) (by simp)) (.cons _ _ _ _ (.pu _ (pu_fn a1p a1q)) (.nil))) sc_v) ca68 r (.one (pu_I _)) r r pu_I ?_ r ?_
 ·exact .cons _ _ _ _ (rnOwn (List.Mem.head _) (by first | rfl | simp)) (.cons _ _ _ _ (.pu _ (pu_fn a1p a1q)) (.nil))
 refine go 1 r<|dn<|at_seq<|rg r<|cdH r hy (fun hy=>?_) fun hy=>?_
 ·refine rg r<|at_ret<|?_
  obtain rfl:=sj hy
  exact outOw (g1:=I) r (.inl r) r r pu_I r
 ·refine at_skip<|bkH hy fun o1 hy k1 hk1 hc1=>meetD [] [] r r (fun (p:Int × (List Int))=>match p with | (v5_2,l0_2)=>([(0,.own 0 0 1 0 (l0_2).length false),(5,(I v5_2))],[(0,some (0,.buf 1 (l0_2.map I)))],k1 (v5_2,l0_2)=some y)) ?_ ?_
  ·skip
   refine rg r<|at_block<|loopD [1] [] r r (fun (p:Nat × Int × Int × (List Int))=>match p with | (n2,v5_1,v6_1,l0_1)=>([(0,.own 0 0 1 0 (l0_1).length false),(5,(I v5_1)),(6,(I v6_1))],[(0,some (0,.buf 1 (l0_1.map I)))],p_h K a1 n2 v5_1 v6_1 l0_1=some o1)) (K,r1,(w64 (r1+1)),a0) (lk r) (hk r) hy<|?_
   rintro ⟨n2,v5_1,v6_1,l0_1⟩ cl hy
   obtain _ | n2:=n2;· cases hy
   refine nf r r<|?_
   replace hy:_=some _:=hy
   rw [p_h] at hy
   refine at_seq<|reg 4 r<|go 2 r<|lno slB29 r r r<|go 1 r<|dn<|cdH r hy (fun hy=>?_) fun hy=>?_
   ·refine at_skip<|at_seq<|at_block<|reg 5 r<|go 2 r<|bdH hy fun i2 qi2 bi2 hy=>gtH hy fun v3 xv3 hy=>ixP' sl29 qi2 bi2 r r r r<|ldP (f:=I) tk3 xv3 r r r r r<|go 1 r<|dn<|reg 4 r<|go 2 r<|bndH hy fun r4 qr4 hy=>clv (a1h qr4) a1k r r r r a1l (puL3 a1p (.cons (pu_I _) (.nil)) a1q) (.one (pu_B _)) r<|go 1 r<|dn<|cdH r hy (fun hy=>?_) fun hy=>?_
    ·refine reg 5 r<|go 3 r<|bdH hy fun i5 qi5 bi5 hy=>gtH hy fun v6 xv6 hy=>ixP' sl29 qi5 bi5 r r r r<|stP (f:=I) (v3) tk3 xv6 r r r r r r<|dn<|rg1 r<|at_bn<|rg1 r<|againD (n2,(w64 (v5_1+1)),(w64 (v6_1+1)),(l0_1.set i5 v3)) (.k r (by simp) (.j r (.j r .nil))) (hk r) r r hy r
    ·refine at_skip<|at_bn<|rg1 r<|againD (n2,v5_1,(w64 (v6_1+1)),l0_1) (lk r) (hk r) r r hy r
   ·exact at_exit<|at_te<|at_te<|at_inBlock<|metD (v5_1,l0_1) (lk r) (hk r) r r (sj2 hy hc1)
  ·rintro ⟨v5_2,l0_2⟩ cl hy
   subst hk1
   refine nf r r<|reg 4 r<|go 2 r<|bdH hy fun i7 qi7 bi7 hy=>sloB sl29 qi7 (Nat.le_of_lt_succ bi7) r r r r<|guH hy fun k8 hy=>clrP (f:=I) (l:=l0_2) se29 (by first | exact k8 | simpa using k8) r r r<|dn<|reg 4 r<|go 2 r<|bdH hy fun i9 qi9 bi9 hy=>sloF sl29 qi9 (Nat.le_of_lt_succ bi9) r r r r<|go 1 r<|dn<|at_ret<|?_
   obtain rfl:=sj hy
   exact outOw (g1:=I) r (.inl r) r r pu_I r
def p_b0 (K:Nat) (a0:Seek_tree_):Option (List Int) :=
 ((p_cA K a0.tokens).bind fun r1=>((p_bm K r1 (fun (x0:Int)=>p_b5 K x0 a0)).bind fun r2=>guP (r2.1≤r2.2.length) (some (List.take r2.1 r2.2))))
theorem w_eG {K:Nat}{a0:Seek_tree_}{y:(List Int)} (hy:p_b0 K a0=some y):Does PP GV 29 [] [((FP Seek_tree_A) a0)] [] [] ((SL 1 I) y):=by
 unfold p_b0 at hy
 refine does_of at29 r (le_ok r)<|?_
 rintro ⟨_,base,w0,F⟩ rfl
 refine reg 2 r<|bx 1 r r r r<|go 1 r<|dn<|frzB (e:=((FP Seek_tree_A) a0)) 1 1 r r ((pu_fp pu_Seek_tree_) _)<|reg 8 r<|fld tk56 r r r r<|go 1 r<|ffa fo64_1 r r r<|fld tk29 r r r r<|bndH hy fun r1 qr1 hy=>clN (g1:=I) 2 (w_fM qr1) ca41 r r pu_I (.cons ((pu_l 1 pu_I) _) (.nil)) r<|rg_makeFunc (gd_of r) (evL_of r) (evL_of r) r (lt_ok r)<|bndH hy fun r2 qr2 hy=>cloW (s:=2) (w_fw (a1h:=fun h=>w_f8 h) (a1k:=ca55) (a1l:=⟨r,r⟩) (a1p:=.nil) (a1q:=.cons ((pu_fp (pu_fp pu_Seek_tree_)) _) (.nil)) qr2) ca54 r r r pu_I ?_ r ?_
 ·exact .cons _ _ _ _ (rnOwn (List.Mem.head _) (by first | rfl | simp)) (.cons _ _ _ _ (.pu _ (pu_fn (.nil) (.cons ((pu_fp (pu_fp pu_Seek_tree_)) _) (.nil)))) (.nil))
 refine guH hy fun k3 hy=>go 1 r<|dn<|at_ret<|frzS (f:=I) (l:=r2.2) 2 2 r r pu_I k3<|?_
 obtain rfl:=sj hy
 exact eR r r
def p_dX (K:Nat) (a0:Seek_tree_) (a1:Ed):Option Bool :=
 some ((w64 (((a0.of_.get? a1.u).getD 0)+((a0.of_.get? a1.v).getD 0))) == 1)
theorem w_fL {K:Nat}{a0:Seek_tree_}{a1:Ed}{y:Bool} (hy:p_dX K a0 a1=some y):Does PP GV 32 [] [((FP Seek_tree_A) a0),(EdA a1)] [] [] (B y):=by
 unfold p_dX at hy
 refine does_of at32 r (le_ok r)<|?_
 rintro ⟨_,base,w0,F⟩ rfl
 refine reg 2 r<|bx 1 r r r r<|go 1 r<|dn<|regd mixed 17 r<|go 2 r<|ffa fo64_2 r r r<|fld tk61 r r r r<|fa fo47_0 r r r<|ld tk3 r r r r r r<|lkFZ (ev:=I) (m:=a0.of_) (z0:=0) (kInt ui3) mt61 zo3 (fun _=>Option.some_ne_none _) (fun _ _ h=>h) r r r r r<|go 2 r<|ffa fo64_2 r r r<|fld tk61 r r r r<|fa fo47_1 r r r<|ld tk3 r r r r r r<|lkFZ (ev:=I) (m:=a0.of_) (z0:=0) (kInt ui3) mt61 zo3 (fun _=>Option.some_ne_none _) (fun _ _ h=>h) r r r r r<|go 3 r<|dn ⟨by kernel_rfl,?_⟩
 refine at_ret<|?_
 obtain rfl:=sj hy
 exact eR r r
def p_fS (K:Nat) (a0:Ed) (a1:Seek_tree_):Option Bool :=
 ((p_dX K a1 a0).bind fun r1=>some (!r1))
theorem w_gY {K:Nat}{a0:Ed}{a1:Seek_tree_}{y:Bool} (hy:p_fS K a0 a1=some y):Does PP GV 34 [] [(EdA a0),((FP (FP Seek_tree_A)) a1)] [] [] (B y):=by
 unfold p_fS at hy
 refine does_of at34 r (le_ok r)<|?_
 rintro ⟨_,base,w0,F⟩ rfl
 refine reg 2 r<|bx 1 r r r r<|go 1 r<|dn<|reg 5 r<|fld tk56 r r r r<|ldw tk47 r r r r r r<|bndH hy fun r1 qr1 hy=>clc (w_fL qr1) ca32 r r r<|go 2 r<|dn<|at_ret<|?_
 obtain rfl:=sj hy
 exact eR r r
def p_cq (K:Nat) (a0:(List Ed)):Nat→Int→(List Int)→Option (List Int)
 | 0,_,_=>none
 | n+1,v8_1,l1003_1=>(bif (decide (v8_1 < (a0.length:Int))) then (ixP a0 v8_1 fun v2=>(apP 8 l1003_1.length [v2.u,v2.v].length (p_cq K a0 n (w64 (v8_1+1)) (l1003_1++[v2.u,v2.v])))) else some l1003_1)
def p_ek (K:Nat) (a0:(List Ed)):Option (List Int) :=
 ((p_cq K a0 K 0 []:Option (List Int)).bind fun l1003_2=>some l1003_2)
theorem w_gO {K:Nat}{a0:(List Ed)}{y:(List Int)} (hy:p_ek K a0=some y):Does PP GV 131 [] [((SL 2 EdA) a0)] [] [] ((SL 1 I) y):=by
 unfold p_ek at hy
 refine does_of at131 r (le_ok r)<|?_
 rintro ⟨_,base,w0,F⟩ rfl
 refine rg r<|rg r<|bkH hy fun o1 hy k1 hk1 hc1=>meetD [] [] r r (fun (p:(List Int) × Nat)=>match p with | (l1003_2,g1003_1)=>([(3,.own 1003 g1003_1 1 0 (l1003_2).length false)],[(1003,some (g1003_1,.buf 1 (l1003_2.map I)))],k1 l1003_2=some y)) ?_ ?_
 ·skip
  refine reg 3 r<|go 1 r<|lnf (f:=EdA) slB41 r r r<|go 1 r<|dn<|at_block<|niloP (I) 3 1003 1 r<|loopD [6,7] [] r r (fun (p:Nat × Int × (List Int) × Nat)=>match p with | (n2,v8_1,l1003_1,g1003_2)=>([(3,.own 1003 g1003_2 1 0 (l1003_1).length false),(8,(I v8_1))],[(1003,some (g1003_2,.buf 1 (l1003_1.map I)))],p_cq K a0 n2 v8_1 l1003_1=some o1)) (K,0,[],_) (lk r) (hk r) hy<|?_
  rintro ⟨n2,v8_1,l1003_1,g1003_2⟩ cl hy
  obtain _ | n2:=n2;· cases hy
  refine nf r r<|?_
  replace hy:_=some _:=hy
  rw [p_cq] at hy
  refine rg r<|at_seq<|cdH r hy (fun hy=>?_) fun hy=>?_
  ·refine at_skip<|at_seq<|at_block<|reg 4 r<|ixH hy fun i1 v2 qi1 xv2 hy=>fixP (f:=EdA) sl41 qi1 xv2 r r r r<|fldw tk47 r r r r<|rg_alloc (s:=1) (gd_of r) zc47 (elems_one (by rfl)) (lt_ok r)<|str tk47 r r r r r r r<|dn<|reg1 8 r<|go 1 r<|fa fo47_0 r r r<|ld tk3 r r r r r r<|fa fo47_1 r r r<|ld tk3 r r r r r r<|bldsP I ([v2.u,v2.v]:List Int) 2 se29 r r r r r r r<|apH hy fun k3a k3b hy=>apoP (f:=I) (l:=l1003_1) (zs:=[v2.u,v2.v]) se29 k3a k3b r r r r r r<|go 1 r<|dn<|at_bn<|rg1 r<|againD (n2,(w64 (v8_1+1)),(l1003_1++[v2.u,v2.v]),_) (lk r) (hk r) r r hy r
  ·exact at_exit<|at_te<|at_te<|at_inBlock<|metD (l1003_1,_) (lk r) (hk r) r r (sj2 hy hc1)
 ·rintro ⟨l1003_2,g1003_1⟩ cl hy
  subst hk1
  refine nf r r<|rg r<|at_ret<|frzP (f:=I) (l:=l1003_2) 2 1003 r r pu_I<|?_
  obtain rfl:=sj hy
  exact eR r r
def p_eg (K:Nat) (a0:Int) (a1:Fo):Option Bool :=
 (bif (decide (a0 < 0)) then some true else some (decide (a0≥a1.n)))
theorem w_gy {K:Nat}{a0:Int}{a1:Fo}{y:Bool} (hy:p_eg K a0 a1=some y):Does PP GV 140 [] [(I a0),((FP FoA) a1)] [] [] (B y):=by
 unfold p_eg at hy
 refine does_of at140 r (le_ok r)<|?_
 rintro ⟨_,base,w0,F⟩ rfl
 refine rg r<|reg 9 r<|go 3 r<|casH 6 r hy (fun hy=>?_) fun hy=>?_
 ·refine go 6 r<|dn<|at_ret<|?_
  obtain rfl:=sj hy
  exact eR r r
 ·refine go 1 r<|ffa fo81_0 r r r<|fld tk3 r r r r<|go 3 r<|dn<|at_ret<|?_
  obtain rfl:=sj hy
  exact eR r r
def p_dZ (K:Nat) (a0:Int):Option Bool :=
 (bif (decide (a0 < 0)) then some true else some (decide (a0 > 10000)))
theorem w_gI {K:Nat}{a0:Int}{y:Bool} (hy:p_dZ K a0=some y):Does PP GV 66 [] [(I a0)] [] [] (B y):=by
 unfold p_dZ at hy
 refine does_of at66 r (le_ok r)<|?_
 rintro ⟨_,base,w0,F⟩ rfl
 refine rg r<|reg 7 r<|go 3 r<|casH 5 r hy (fun hy=>?_) fun hy=>?_
 ·refine go 4 r<|dn<|at_ret<|?_
  obtain rfl:=sj hy
  exact eR r r
 ·refine go 4 r<|dn<|at_ret<|?_
  obtain rfl:=sj hy
  exact eR r r
def p_by (K:Nat) (a0:(List Int)):Nat→Int→(Mp Int Int)→Option (Mp Int Int)
 | 0,_,_=>none
 | n+1,v9_1,m1_1=>(bif (decide (v9_1 < (a0.length:Int))) then (ixP a0 v9_1 fun v2=>p_by K a0 n (w64 (v9_1+1)) (m1_1.set v2 (w64 (((m1_1.get? v2).getD 0)+1)))) else some m1_1)
def p_eB (K:Nat) (a0:(List Int)):Option Bool :=
 ((p_by K a0 K 0 (Mp.empty:(Mp Int Int)):Option (Mp Int Int)).bind fun m1_2=>some ((m1_2.len:Int) == (a0.length:Int)))
theorem w_gB {K:Nat}{a0:(List Int)}{y:Bool} (hy:p_eB K a0=some y):Does PP GV 67 [] [((SL 1 I) a0)] [] [] (B y):=by
 unfold p_eB at hy
 refine does_of at67 r (le_ok r)<|?_
 rintro ⟨_,base,w0,F⟩ rfl
 refine rg r<|reg 2 r<|mkM (κ:=Int) (ν:=Int) (Value.int .i64) I 1 r r<|go 1 r<|dn<|bkH hy fun o1 hy k1 hk1 hc1=>meetD [0] [] r r (fun (p:(Mp Int Int) × Nat)=>match p with | (m1_2,g1_1)=>([(3,.mp 1 g1_1)],[(1,some (g1_1,.map (encM (Value.int .i64) I m1_2)))],k1 m1_2=some y)) ?_ ?_
 ·skip
  refine reg 3 r<|go 1 r<|lnf (f:=I) slB29 r r r<|go 1 r<|dn<|at_block<|loopD [0,7,8] [] r r (fun (p:Nat × Int × (Mp Int Int) × Nat)=>match p with | (n2,v9_1,m1_1,g1_2)=>([(3,.mp 1 g1_2),(9,(I v9_1))],[(1,some (g1_2,.map (encM (Value.int .i64) I m1_1)))],p_by K a0 n2 v9_1 m1_1=some o1)) (K,0,(Mp.empty:(Mp Int Int)),_) (lk r) (hk r) hy<|?_
  rintro ⟨n2,v9_1,m1_1,g1_2⟩ cl hy
  obtain _ | n2:=n2;· cases hy
  refine nf r r<|?_
  replace hy:_=some _:=hy
  rw [p_by] at hy
  refine rg r<|at_seq<|cdH r hy (fun hy=>?_) fun hy=>?_
  ·refine at_skip<|at_seq<|at_block<|reg 3 r<|ixH hy fun i1 v2 qi1 xv2 hy=>fixP (f:=I) sl29 qi1 xv2 r r r r<|fld tk3 r r r r<|go 1 r<|dn<|reg1 5 r<|go 2 r<|lkMZ (ev:=I) (m:=m1_1) (z0:=0) (kInt ui3) mt61 zo3 (fun _=>Option.some_ne_none _) (fun _ _ h=>h) r r r r r r<|go 1 r<|upM (ev:=I) (m:=m1_1) (kInt ui3) mt61 (v:=(w64 (((m1_1.get? v2).getD 0)+1))) (Option.some_ne_none _) r r r r r r<|dn<|at_bn<|rg1 r<|againD (n2,(w64 (v9_1+1)),(m1_1.set v2 (w64 (((m1_1.get? v2).getD 0)+1))),_) (lk r) (hk r) r r hy r
  ·exact at_exit<|at_te<|at_te<|at_inBlock<|metD (m1_1,_) (lk r) (hk r) r r (sj2 hy hc1)
 ·rintro ⟨m1_2,g1_1⟩ cl hy
  subst hk1
  refine nf r r<|reg 6 r<|go 1 r<|mlM (ek:=(Value.int .i64)) (ev:=I) (m:=m1_2) mt61 r r r r<|go 1 r<|lnf (f:=I) slB29 r r r<|go 2 r<|dn<|at_ret<|?_
  obtain rfl:=sj hy
  exact eR r r
end Go.Ar
namespace Go.Ar
open Go.RowKit
def p_e (K:Nat) (a0:(List Int)) (a1:(Int→Option Bool)):Option Bool :=
 ((p_A K a0 a1).bind fun r1=>some (decide (r1≥0)))
theorem w_bR {K:Nat}{a0:(List Int)}{a1:(Int→Option Bool)}{y:Bool}{a1f:FuncId}{a1s a1c:List AV} (a1h:∀ {x0:Int}{r:Bool},a1 x0=some r→Does PP GV a1f [] (a1s++[(I x0)]++a1c) [] [] (B r)) (a1k:callable PP a1f=true) (a1l:a1s.all flat=true∧a1c.all flat=true) (a1p:PuL a1s) (a1q:PuL a1c) (hy:p_e K a0 a1=some y):Does PP GV 40 [] [((SL 1 I) a0),.fn (.func a1f) a1s a1c] [] [] (B y):=by
 unfold p_e at hy
 refine does_of at40 r (le_ok r)<|?_
 rintro ⟨_,base,w0,F⟩ rfl
 refine rg r<|reg 5 r<|go 2 r<|bndH hy fun r1 qr1 hy=>clp (w_ec (a1h:=a1h) (a1k:=a1k) (a1l:=a1l) (a1p:=a1p) (a1q:=a1q) qr1) ca68 r r (.cons ((pu_l 1 pu_I) _) (.cons (pu_fn a1p a1q) (.nil))) (.one (pu_I _)) r<|go 2 r<|dn<|at_ret<|?_
 obtain rfl:=sj hy
 exact eR r r
def p_c3 (K:Nat) (a0:(List Int)):Option Bool :=
 (bif (decide ((a0.length:Int) > 1000)) then some false else ((p_e K a0 (fun (x0:Int)=>p_dZ K x0)).bind fun r1=>(bif (!r1) then ((p_eB K a0).bind fun r2=>some r2) else some false)))
theorem w_fn {K:Nat}{a0:(List Int)}{y:Bool} (hy:p_c3 K a0=some y):Does PP GV 39 [] [((SL 1 I) a0)] [] [] (B y):=by
 unfold p_c3 at hy
 refine does_of at39 r (le_ok r)<|?_
 rintro ⟨_,base,w0,F⟩ rfl
 refine rg r<|at_seq<|reg 3 r<|go 1 r<|lnf (f:=I) slB29 r r r<|go 1 r<|dn<|cdH r hy (fun hy=>?_) fun hy=>?_
 ·refine rg r<|at_ret<|?_
  obtain rfl:=sj hy
  exact eR r r
 ·refine at_skip<|rg r<|reg 9 r<|go 2 r<|bndH hy fun r1 qr1 hy=>clp (w_bR (a1h:=fun h=>w_gI h) (a1k:=ca66) (a1l:=⟨r,r⟩) (a1p:=.nil) (a1q:=.nil) qr1) ca40 r r (.cons ((pu_l 1 pu_I) _) (.cons (pu_fn (.nil) (.nil)) (.nil))) (.one (pu_B _)) r<|go 2 r<|casH 11 r hy (fun hy=>?_) fun hy=>?_
  ·refine go 1 r<|bndH hy fun r2 qr2 hy=>clc (w_gB qr2) ca67 r r r<|go 2 r<|dn<|at_ret<|?_
   obtain rfl:=sj hy
   exact eR r r
  ·refine go 4 r<|dn<|at_ret<|?_
   obtain rfl:=sj hy
   exact eR r r
def p_dg (K:Nat) (a0:Tour_walk_) (a1:Int) (a2:Int):Option (Bool × Tour_walk_) :=
 (bdP a0.way.length (w64 ((a0.way.length:Int) - 1)) fun i1=>gtP a0.way i1 fun v2=>(bif (v2 != a1) then some (false,(Tour_walk_.mk a0.way a0.came a0.met)) else (bif (decide ((w64 ((a0.way.length:Int) - 1)) > 0)) then (bdP a0.way.length (w64 ((w64 ((a0.way.length:Int) - 1)) - 1)) fun i3=>gtP a0.way i3 fun v4=>(bif (v4 == a2) then (bdP (a0.way.length+1) (w64 ((a0.way.length:Int) - 1)) fun i5=>some (true,(Tour_walk_.mk (List.take i5 a0.way) a0.came a0.met))) else (bif (decide (((a0.came.get? a2).getD 0) > 0)) then some (false,(Tour_walk_.mk a0.way a0.came a0.met)) else (apP 8 a0.way.length [a2].length (some (true,(Tour_walk_.mk (a0.way++[a2]) (a0.came.set a2 (w64 (((a0.came.get? a2).getD 0)+1))) a0.met))))))) else (bif (decide (((a0.came.get? a2).getD 0) > 0)) then some (false,(Tour_walk_.mk a0.way a0.came a0.met)) else (apP 8 a0.way.length [a2].length (some (true,(Tour_walk_.mk (a0.way++[a2]) (a0.came.set a2 (w64 (((a0.came.get? a2).getD 0)+1))) a0.met))))))))
theorem w_gs {K:Nat}{a0:Tour_walk_}{a1:Int}{a2:Int}{y:(Bool × Tour_walk_)} (hy:p_dg K a0 a1 a2=some y):Does PP GV 115 (wkO I (Value.int .i64) I a0.way a0.came a0.met) [.ptr 0 0 0 0,(I a1),(I a2)] [0,2,3] (wkO I (Value.int .i64) I y.2.way y.2.came y.2.met) (B y.1):=by
 unfold p_dg at hy
 refine does_of at115 r (le_ok r)<|?_
 rintro ⟨_,base,w0,F⟩ rfl
 refine rg r<|reg 7 r<|go 2 r<|fa fo135_0 r r r<|ld tk29 r r r r r r<|lno slB29 r r r<|go 2 r<|dn<|at_seq<|at_block<|reg 10 r<|go 2 r<|fa fo135_0 r r r<|ld tk29 r r r r r r<|go 1 r<|bdH hy fun i1 qi1 bi1 hy=>gtH hy fun v2 xv2 hy=>ixP' sl29 qi1 bi1 r r r r<|ldP (f:=I) tk3 xv2 r r r r r<|go 3 r<|dn<|cdH r hy (fun hy=>?_) fun hy=>?_
 ·refine rg r<|at_ret<|?_
  obtain rfl:=sj hy
  exact outWk (g1:=I) (ev:=I) r (.inl r) r (pu_B _) pu_I pu_I r r r r
 ·refine reg 15 r<|go 3 r<|casH 44 r hy (fun hy=>?_) fun hy=>?_
  ·refine go 2 r<|fa fo135_0 r r r<|ld tk29 r r r r r r<|go 2 r<|bdH hy fun i3 qi3 bi3 hy=>gtH hy fun v4 xv4 hy=>ixP' sl29 qi3 bi3 r r r r<|ldP (f:=I) tk3 xv4 r r r r r<|go 4 r<|dn<|cdH r hy (fun hy=>?_) fun hy=>?_
   ·refine reg1 10 r<|go 3 r<|fa fo135_0 r r r<|ld tk29 r r r r r r<|go 1 r<|bdH hy fun i5 qi5 bi5 hy=>sloF sl29 qi5 (Nat.le_of_lt_succ bi5) r r r r<|go 1 r<|fa fo135_0 r r r<|str tk29 r r r r r r r<|dn<|cutP (f:=I) (l:=a0.way) 1 i5 r<|cellL 0 0 (m':=(List.take i5 a0.way).length) (by rw [List.length_take];omega) r r<|at_bn<|rg r<|at_ret<|?_
    obtain rfl:=sj hy
    exact outWk (g1:=I) (ev:=I) r (.inl r) r (pu_B _) pu_I pu_I r r r r
   ·refine reg 8 r<|go 2 r<|fa fo135_1 r r r<|ld tk61 r r r r r r<|go 1 r<|lkMZ (ev:=I) (m:=a0.came) (z0:=0) (kInt ui3) mt61 zo3 (fun _=>Option.some_ne_none _) (fun _ _ h=>h) r r r r r r<|go 2 r<|dn<|cdH r hy (fun hy=>?_) fun hy=>?_
    ·refine rg r<|at_ret<|?_
     obtain rfl:=sj hy
     exact outWk (g1:=I) (ev:=I) r (.inl r) r (pu_B _) pu_I pu_I r r r r
    ·refine reg 11 r<|go 3 r<|fa fo135_0 r r r<|ld tk29 r r r r r r<|go 1 r<|bldsP I ([a2]:List Int) 4 se29 r r r r r r r<|apH hy fun k6a k6b hy=>apoP (f:=I) (l:=a0.way) (zs:=[a2]) se29 k6a k6b r r r r r r<|go 1 r<|fa fo135_0 r r r<|str tk29 r r r r r r r<|dn<|reg1 8 r<|go 2 r<|fa fo135_1 r r r<|ld tk61 r r r r r r<|go 1 r<|lkMZ (ev:=I) (m:=a0.came) (z0:=0) (kInt ui3) mt61 zo3 (fun _=>Option.some_ne_none _) (fun _ _ h=>h) r r r r r r<|go 1 r<|upM (ev:=I) (m:=a0.came) (kInt ui3) mt61 (v:=(w64 (((a0.came.get? a2).getD 0)+1))) (Option.some_ne_none _) r r r r r r<|dn<|at_bn<|rg r<|at_ret<|?_
     obtain rfl:=sj hy
     exact outWk (g1:=I) (ev:=I) r (.inl r) r (pu_B _) pu_I pu_I r r r r
  ·refine go 12 r<|dn<|cdf r<|reg 8 r<|go 2 r<|fa fo135_1 r r r<|ld tk61 r r r r r r<|go 1 r<|lkMZ (ev:=I) (m:=a0.came) (z0:=0) (kInt ui3) mt61 zo3 (fun _=>Option.some_ne_none _) (fun _ _ h=>h) r r r r r r<|go 2 r<|dn<|cdH r hy (fun hy=>?_) fun hy=>?_
   ·refine rg r<|at_ret<|?_
    obtain rfl:=sj hy
    exact outWk (g1:=I) (ev:=I) r (.inl r) r (pu_B _) pu_I pu_I r r r r
   ·refine reg 11 r<|go 3 r<|fa fo135_0 r r r<|ld tk29 r r r r r r<|go 1 r<|bldsP I ([a2]:List Int) 5 se29 r r r r r r r<|apH hy fun k7a k7b hy=>apoP (f:=I) (l:=a0.way) (zs:=[a2]) se29 k7a k7b r r r r r r<|go 1 r<|fa fo135_0 r r r<|str tk29 r r r r r r r<|dn<|reg1 8 r<|go 2 r<|fa fo135_1 r r r<|ld tk61 r r r r r r<|go 1 r<|lkMZ (ev:=I) (m:=a0.came) (z0:=0) (kInt ui3) mt61 zo3 (fun _=>Option.some_ne_none _) (fun _ _ h=>h) r r r r r r<|go 1 r<|upM (ev:=I) (m:=a0.came) (kInt ui3) mt61 (v:=(w64 (((a0.came.get? a2).getD 0)+1))) (Option.some_ne_none _) r r r r r r<|dn<|at_bn<|rg r<|at_ret<|?_
    obtain rfl:=sj hy
    exact outWk (g1:=I) (ev:=I) r (.inl r) r (pu_B _) pu_I pu_I r r r r
def p_c4 (K:Nat) (a0:Int):Option Bool :=
 (bif (decide (a0≥1)) then some (decide (a0≤64)) else some false)
theorem w_fo {K:Nat}{a0:Int}{y:Bool} (hy:p_c4 K a0=some y):Does PP GV 91 [] [(I a0)] [] [] (B y):=by
 unfold p_c4 at hy
 refine does_of at91 r (le_ok r)<|?_
 rintro ⟨_,base,w0,F⟩ rfl
 refine rg r<|reg 7 r<|go 3 r<|casH 5 r hy (fun hy=>?_) fun hy=>?_
 ·refine go 4 r<|dn<|at_ret<|?_
  obtain rfl:=sj hy
  exact eR r r
 ·refine go 4 r<|dn<|at_ret<|?_
  obtain rfl:=sj hy
  exact eR r r
def p_eH (K:Nat) (a0:Int) (a1:Int):Option (Int × Int × Bool × Bool) :=
 ((p_c4 K a0).bind fun r1=>(bif (!r1) then some (0,0,false,false) else (bif (decide (a1 < 0)) then some (0,0,false,false) else (bif (decide (a1≥(w64 (a0 * (w64 (a0+1)))))) then some (0,0,false,false) else (bif (decide (a1 < a0)) then some (a1,0,false,true) else (nzP a0 ((nzP a0 ((bif ((w64 ((w64 (Int.tdiv a1 a0)) - 1)) == (Int.tmod a1 a0)) then some (0,0,false,false) else some ((w64 ((w64 (Int.tdiv a1 a0)) - 1)),(Int.tmod a1 a0),true,true)))))))))))
theorem w_gZ {K:Nat}{a0:Int}{a1:Int}{y:(Int × Int × Bool × Bool)} (hy:p_eH K a0 a1=some y):Does PP GV 114 [] [(I a0),(I a1)] [] [] (.tup [(I y.1),(I y.2.1),(B y.2.2.1),(B y.2.2.2)]):=by
 unfold p_eH at hy
 refine does_of at114 r (le_ok r)<|?_
 rintro ⟨_,base,w0,F⟩ rfl
 refine rg r<|at_seq<|at_block<|reg 16 r<|go 1 r<|bndH hy fun r1 qr1 hy=>clc (w_fo qr1) ca91 r r r<|go 2 r<|casH 12 r hy (fun hy=>?_) fun hy=>?_
 ·refine go 12 r<|dn<|cdt r<|rg r<|at_ret<|?_
  obtain rfl:=sj hy
  exact mR r r (.t r (.t r (.t r (.t r .nil))))
 ·refine go 4 r<|casH 16 r hy (fun hy=>?_) fun hy=>?_
  ·refine go 8 r<|dn<|cdt r<|rg r<|at_ret<|?_
   obtain rfl:=sj hy
   exact mR r r (.t r (.t r (.t r (.t r .nil))))
  ·refine go 8 r<|dn<|cdH r hy (fun hy=>?_) fun hy=>?_
   ·refine rg r<|at_ret<|?_
    obtain rfl:=sj hy
    exact mR r r (.t r (.t r (.t r (.t r .nil))))
   ·refine rg r<|cdH r hy (fun hy=>?_) fun hy=>?_
    ·refine rg r<|at_ret<|?_
     obtain rfl:=sj hy
     exact mR r r (.t r (.t r (.t r (.t r .nil))))
    ·refine at_skip<|at_bn<|regd mixed 9 r<|go 2 r<|?_
     obtain ⟨k2,hy⟩:=nzI hy
     refine dv r r r r k2<|go 3 r<|?_
     obtain ⟨k3,hy⟩:=nzI hy
     refine rm r r r r k3<|go 2 r<|dn ⟨by kernel_rfl,?_⟩
     refine at_seq<|rg r<|cdH r hy (fun hy=>?_) fun hy=>?_
     ·refine rg r<|at_ret<|?_
      obtain rfl:=sj hy
      exact mR r r (.t r (.t r (.t r (.t r .nil))))
     ·refine at_skip<|rg r<|at_ret<|?_
      obtain rfl:=sj hy
      exact mR r r (.t r (.t r (.t r (.t r .nil))))
def p_dj (K:Nat) (a0:Int) (a1:Int):Option Bool :=
 ((p_c4 K a0).bind fun r1=>(bif r1 then (bif (decide (a1≥0)) then some (decide (a1 < a0)) else some false) else some false))
theorem w_fk {K:Nat}{a0:Int}{a1:Int}{y:Bool} (hy:p_dj K a0 a1=some y):Does PP GV 63 [] [(I a0),(I a1)] [] [] (B y):=by
 unfold p_dj at hy
 refine does_of at63 r (le_ok r)<|?_
 rintro ⟨_,base,w0,F⟩ rfl
 refine rg r<|reg 12 r<|go 1 r<|bndH hy fun r1 qr1 hy=>clc (w_fo qr1) ca91 r r r<|go 1 r<|casH 7 r hy (fun hy=>?_) fun hy=>?_
 ·refine go 4 r<|casH 11 r hy (fun hy=>?_) fun hy=>?_
  ·refine go 5 r<|dn<|at_ret<|?_
   obtain rfl:=sj hy
   exact eR r r
  ·refine go 5 r<|dn<|at_ret<|?_
   obtain rfl:=sj hy
   exact eR r r
 ·refine go 9 r<|dn<|at_ret<|?_
  obtain rfl:=sj hy
  exact eR r r
def p_E (K:Nat) (a1:(List Int)) (a0:Int):Nat→Int→(List Int)→(Mp Int Int)→(Mp Int Int)→Option (Sum ((List Int) × (Mp Int Int) × (Mp Int Int)) Bool)
 | 0,_,_,_,_=>none
 | n+1,v32_1,l1_1,m2_1,m3_1=>(bif (decide (v32_1 < (a1.length:Int))) then (ixP a1 v32_1 fun v9=>((p_eH K a0 v9).bind fun r10=>(bif (!r10.2.2.2) then some (.inr false) else (bif r10.2.2.1 then ((p_dg K (Tour_walk_.mk l1_1 m2_1 m3_1) r10.1 r10.2.1).bind fun r11=>(bif (!r11.1) then some (.inr false) else (bif (!r10.2.2.1) then (bdP r11.2.way.length (w64 ((r11.2.way.length:Int) - 1)) fun i12=>gtP r11.2.way i12 fun v13=>(bif (v13 != r10.1) then some (.inr false) else (bif (!r10.2.2.1) then p_E K a1 a0 n (w64 (v32_1+1)) r11.2.way r11.2.came (r11.2.met.set r10.1 (w64 (((r11.2.met.get? r10.1).getD 0)+1))) else p_E K a1 a0 n (w64 (v32_1+1)) r11.2.way r11.2.came r11.2.met))) else (bif (!r10.2.2.1) then p_E K a1 a0 n (w64 (v32_1+1)) r11.2.way r11.2.came (r11.2.met.set r10.1 (w64 (((r11.2.met.get? r10.1).getD 0)+1))) else p_E K a1 a0 n (w64 (v32_1+1)) r11.2.way r11.2.came r11.2.met)))) else (bif (!r10.2.2.1) then (bdP l1_1.length (w64 ((l1_1.length:Int) - 1)) fun i14=>gtP l1_1 i14 fun v15=>(bif (v15 != r10.1) then some (.inr false) else (bif (!r10.2.2.1) then p_E K a1 a0 n (w64 (v32_1+1)) l1_1 m2_1 (m3_1.set r10.1 (w64 (((m3_1.get? r10.1).getD 0)+1))) else p_E K a1 a0 n (w64 (v32_1+1)) l1_1 m2_1 m3_1))) else (bif (!r10.2.2.1) then p_E K a1 a0 n (w64 (v32_1+1)) l1_1 m2_1 (m3_1.set r10.1 (w64 (((m3_1.get? r10.1).getD 0)+1))) else p_E K a1 a0 n (w64 (v32_1+1)) l1_1 m2_1 m3_1)))))) else some (.inl (l1_1,m2_1,m3_1)))
def p_eZ (K:Nat) (a0:Int) (a1:(List Int)):Option Bool :=
 (ixP a1 0 fun v2=>((p_dj K a0 v2).bind fun r3=>(bif (!r3) then some false else (ixP a1 0 fun v5=>(ixP a1 0 fun v7=>((p_E K a1 a0 K 0 [v5] ((Mp.empty:(Mp Int Int)).set v7 1) (Mp.empty:(Mp Int Int)):Option (Sum ((List Int) × (Mp Int Int) × (Mp Int Int)) Bool)).bind fun | .inl (l1_2,m2_2,m3_2)=>(bif ((l1_2.length:Int) == 1) then some ((m3_2.len:Int) == (m2_2.len:Int)) else some false) | .inr r=>some r))))))
theorem w_g5 {K:Nat}{a0:Int}{a1:(List Int)}{y:Bool} (hy:p_eZ K a0 a1=some y):Does PP GV 93 [] [(I a0),((SL 1 I) a1)] [] [] (B y):=by
 unfold p_eZ at hy
 refine does_of at93 r (le_ok r)<|?_
 rintro ⟨_,base,w0,F⟩ rfl
 refine rg r<|at_seq<|reg 6 r<|go 2 r<|ixH hy fun i1 v2 qi1 xv2 hy=>fixP (f:=I) sl29 qi1 xv2 r r r r<|fld tk3 r r r r<|bndH hy fun r3 qr3 hy=>clc (w_fk qr3) ca63 r r r<|go 1 r<|dn<|cdH r hy (fun hy=>?_) fun hy=>?_
 ·refine rg r<|at_ret<|?_
  obtain rfl:=sj hy
  exact eR r r
 ·refine at_skip<|regd mixed 14 r<|go 1 r<|ixH hy fun i4 v5 qi4 xv5 hy=>fixP (f:=I) sl29 qi4 xv5 r r r r<|fld tk3 r r r r<|bldsP I ([v5]:List Int) 1 se29 r r r r r r r<|mkM (κ:=Int) (ν:=Int) (Value.int .i64) I 2 r r<|go 1 r<|ixH hy fun i6 v7 qi6 xv7 hy=>fixP (f:=I) sl29 qi6 xv7 r r r r<|fld tk3 r r r r<|inM (ev:=I) (m:=(Mp.empty:(Mp Int Int))) (kInt ui3) mt61 (v:=1) (Option.some_ne_none _) r r r r r r<|go 1 r<|mkM (κ:=Int) (ν:=Int) (Value.int .i64) I 3 r r<|bld bd135 r r r r<|bx 4 r r r r<|go 1 r<|dn ⟨by kernel_rfl,?_⟩
  refine bkH hy fun o1 hy k1 hk1 hc1=>meetD [] [] r r (fun (p:(List Int) × (Mp Int Int) × (Mp Int Int) × Nat × Nat × Nat × Nat)=>match p with | (l1_2,m2_2,m3_2,g1_1,g2_1,g3_1,g4_1)=>([(5,.ptr 4 g4_1 0 0)],[(1,some (g1_1,.buf 1 (l1_2.map I))),(2,some (g2_1,.map (encM (Value.int .i64) I m2_2))),(3,some (g3_1,.map (encM (Value.int .i64) I m3_2))),(4,some (g4_1,.buf 3 [.agg [.own 1 g1_1 1 0 (l1_2).length false,.mp 2 g2_1,.mp 3 g3_1]]))],k1 (.inl (l1_2,m2_2,m3_2))=some y)) ?_ ?_
  ·skip
   refine reg 3 r<|go 1 r<|lnf (f:=I) slB29 r r r<|go 1 r<|dn<|at_block<|loopD [0,30,31] [] r r (fun (p:Nat × Int × (List Int) × (Mp Int Int) × (Mp Int Int) × Nat × Nat × Nat × Nat)=>match p with | (n2,v32_1,l1_1,m2_1,m3_1,g1_2,g2_2,g3_2,g4_2)=>([(5,.ptr 4 g4_2 0 0),(32,(I v32_1))],[(1,some (g1_2,.buf 1 (l1_1.map I))),(2,some (g2_2,.map (encM (Value.int .i64) I m2_1))),(3,some (g3_2,.map (encM (Value.int .i64) I m3_1))),(4,some (g4_2,.buf 3 [.agg [.own 1 g1_2 1 0 (l1_1).length false,.mp 2 g2_2,.mp 3 g3_2]]))],p_E K a1 a0 n2 v32_1 l1_1 m2_1 m3_1=some o1)) (K,0,[v5],((Mp.empty:(Mp Int Int)).set v7 1),(Mp.empty:(Mp Int Int)),_,_,_,_) (lk r) (hk r) hy<|?_
   rintro ⟨n2,v32_1,l1_1,m2_1,m3_1,g1_2,g2_2,g3_2,g4_2⟩ cl hy
   obtain _ | n2:=n2;· cases hy
   refine nf r r<|?_
   replace hy:_=some _:=hy
   rw [p_E] at hy
   refine rg r<|at_seq<|cdH r hy (fun hy=>?_) fun hy=>?_
   ·refine at_skip<|at_seq<|at_block<|reg 3 r<|ixH hy fun i8 v9 qi8 xv9 hy=>fixP (f:=I) sl29 qi8 xv9 r r r r<|fld tk3 r r r r<|go 1 r<|dn<|reg 12 r<|go 2 r<|bndH hy fun r10 qr10 hy=>clc (w_gZ qr10) ca114 r r r<|go 9 r<|dn<|at_block<|regd mixed 33 r<|go 3 r<|casH 47 r hy (fun hy=>?_) fun hy=>?_
    ·refine go 30 r<|dn ⟨by kernel_rfl,?_⟩
     refine cdt r<|rg r<|at_ret<|?_
     obtain rfl:=sj hy
     subst hk1;obtain rfl:=sj hc1
     exact eR r r
    ·refine go 2 r<|casH 49 r hy (fun hy=>?_) fun hy=>?_
     ·refine go 3 r<|bndH hy fun r11 qr11 hy=>clWk (s0:=4) (s1:=1) (s2:=2) (s3:=3) (w_gs qr11) ca115 (pu_B _) pu_I pu_I (by decide) r r r r r r r<|go 4 r<|casH 57 r hy (fun hy=>?_) fun hy=>?_
      ·refine go 20 r<|dn ⟨by kernel_rfl,?_⟩
       refine cdt r<|rg r<|at_ret<|?_
       obtain rfl:=sj hy
       subst hk1;obtain rfl:=sj hc1
       exact eR r r
      ·refine go 3 r<|casH 60 r hy (fun hy=>?_) fun hy=>?_
       ·refine go 2 r<|fa fo135_0 r r r<|ld tk29 r r r r r r<|go 2 r<|fa fo135_0 r r r<|ld tk29 r r r r r r<|lno slB29 r r r<|go 1 r<|bdH hy fun i12 qi12 bi12 hy=>gtH hy fun v13 xv13 hy=>ixP' sl29 qi12 bi12 r r r r<|ldP (f:=I) tk3 xv13 r r r r r<|go 5 r<|dn ⟨by kernel_rfl,?_⟩
        refine cdH r hy (fun hy=>?_) fun hy=>?_
        ·refine rg r<|at_ret<|?_
         obtain rfl:=sj hy
         subst hk1;obtain rfl:=sj hc1
         exact eR r r
        ·refine rg r<|cdH r hy (fun hy=>?_) fun hy=>?_
         ·refine reg1 8 r<|go 2 r<|fa fo135_2 r r r<|ld tk61 r r r r r r<|go 1 r<|lkMZ (ev:=I) (m:=r11.2.met) (z0:=0) (kInt ui3) mt61 zo3 (fun _=>Option.some_ne_none _) (fun _ _ h=>h) r r r r r r<|go 1 r<|upM (ev:=I) (m:=r11.2.met) (kInt ui3) mt61 (v:=(w64 (((r11.2.met.get? r10.1).getD 0)+1))) (Option.some_ne_none _) r r r r r r<|dn<|at_bn<|at_bn<|rg1 r<|againD (n2,(w64 (v32_1+1)),r11.2.way,r11.2.came,(r11.2.met.set r10.1 (w64 (((r11.2.met.get? r10.1).getD 0)+1))),_,_,_,_) (lk r) (hk r) r r hy r
         ·refine at_skip<|at_bn<|at_bn<|rg1 r<|againD (n2,(w64 (v32_1+1)),r11.2.way,r11.2.came,r11.2.met,_,_,_,_) (lk r) (hk r) r r hy r
       ·refine go 17 r<|dn ⟨by kernel_rfl,?_⟩
        refine cdf r<|rg r<|cdH r hy (fun hy=>?_) fun hy=>?_
        ·refine reg1 8 r<|go 2 r<|fa fo135_2 r r r<|ld tk61 r r r r r r<|go 1 r<|lkMZ (ev:=I) (m:=r11.2.met) (z0:=0) (kInt ui3) mt61 zo3 (fun _=>Option.some_ne_none _) (fun _ _ h=>h) r r r r r r<|go 1 r<|upM (ev:=I) (m:=r11.2.met) (kInt ui3) mt61 (v:=(w64 (((r11.2.met.get? r10.1).getD 0)+1))) (Option.some_ne_none _) r r r r r r<|dn<|at_bn<|at_bn<|rg1 r<|againD (n2,(w64 (v32_1+1)),r11.2.way,r11.2.came,(r11.2.met.set r10.1 (w64 (((r11.2.met.get? r10.1).getD 0)+1))),_,_,_,_) (lk r) (hk r) r r hy r
        ·refine at_skip<|at_bn<|at_bn<|rg1 r<|againD (n2,(w64 (v32_1+1)),r11.2.way,r11.2.came,r11.2.met,_,_,_,_) (lk r) (hk r) r r hy r
     ·refine go 11 r<|casH 60 r hy (fun hy=>?_) fun hy=>?_
      ·refine go 2 r<|fa fo135_0 r r r<|ld tk29 r r r r r r<|go 2 r<|fa fo135_0 r r r<|ld tk29 r r r r r r<|lno slB29 r r r<|go 1 r<|bdH hy fun i14 qi14 bi14 hy=>gtH hy fun v15 xv15 hy=>ixP' sl29 qi14 bi14 r r r r<|ldP (f:=I) tk3 xv15 r r r r r<|go 5 r<|dn ⟨by kernel_rfl,?_⟩
       refine cdH r hy (fun hy=>?_) fun hy=>?_
       ·refine rg r<|at_ret<|?_
        obtain rfl:=sj hy
        subst hk1;obtain rfl:=sj hc1
        exact eR r r
       ·refine rg r<|cdH r hy (fun hy=>?_) fun hy=>?_
        ·refine reg1 8 r<|go 2 r<|fa fo135_2 r r r<|ld tk61 r r r r r r<|go 1 r<|lkMZ (ev:=I) (m:=m3_1) (z0:=0) (kInt ui3) mt61 zo3 (fun _=>Option.some_ne_none _) (fun _ _ h=>h) r r r r r r<|go 1 r<|upM (ev:=I) (m:=m3_1) (kInt ui3) mt61 (v:=(w64 (((m3_1.get? r10.1).getD 0)+1))) (Option.some_ne_none _) r r r r r r<|dn<|at_bn<|at_bn<|rg1 r<|againD (n2,(w64 (v32_1+1)),l1_1,m2_1,(m3_1.set r10.1 (w64 (((m3_1.get? r10.1).getD 0)+1))),_,_,_,_) (lk r) (hk r) r r hy r
        ·refine at_skip<|at_bn<|at_bn<|rg1 r<|againD (n2,(w64 (v32_1+1)),l1_1,m2_1,m3_1,_,_,_,_) (lk r) (hk r) r r hy r
      ·refine go 17 r<|dn ⟨by kernel_rfl,?_⟩
       refine cdf r<|rg r<|cdH r hy (fun hy=>?_) fun hy=>?_
       ·refine reg1 8 r<|go 2 r<|fa fo135_2 r r r<|ld tk61 r r r r r r<|go 1 r<|lkMZ (ev:=I) (m:=m3_1) (z0:=0) (kInt ui3) mt61 zo3 (fun _=>Option.some_ne_none _) (fun _ _ h=>h) r r r r r r<|go 1 r<|upM (ev:=I) (m:=m3_1) (kInt ui3) mt61 (v:=(w64 (((m3_1.get? r10.1).getD 0)+1))) (Option.some_ne_none _) r r r r r r<|dn<|at_bn<|at_bn<|rg1 r<|againD (n2,(w64 (v32_1+1)),l1_1,m2_1,(m3_1.set r10.1 (w64 (((m3_1.get? r10.1).getD 0)+1))),_,_,_,_) (lk r) (hk r) r r hy r
       ·refine at_skip<|at_bn<|at_bn<|rg1 r<|againD (n2,(w64 (v32_1+1)),l1_1,m2_1,m3_1,_,_,_,_) (lk r) (hk r) r r hy r
   ·exact at_exit<|at_te<|at_te<|at_inBlock<|metD (l1_1,m2_1,m3_1,_,_,_,_) (lk r) (hk r) r r (sj2 hy hc1)
  ·rintro ⟨l1_2,m2_2,m3_2,g1_1,g2_1,g3_1,g4_1⟩ cl hy
   subst hk1
   refine nf r r<|regd mixed 20 r<|go 2 r<|fa fo135_0 r r r<|ld tk29 r r r r r r<|lno slB29 r r r<|go 2 r<|casH 94 r hy (fun hy=>?_) fun hy=>?_
   ·refine go 2 r<|fa fo135_2 r r r<|ld tk61 r r r r r r<|mlM (ek:=(Value.int .i64)) (ev:=I) (m:=m3_2) mt61 r r r r<|go 2 r<|fa fo135_1 r r r<|ld tk61 r r r r r r<|mlM (ek:=(Value.int .i64)) (ev:=I) (m:=m2_2) mt61 r r r r<|go 3 r<|dn ⟨by kernel_rfl,?_⟩
    refine at_ret<|?_
    obtain rfl:=sj hy
    exact eR r r
   ·refine go 13 r<|dn ⟨by kernel_rfl,?_⟩
    refine at_ret<|?_
    obtain rfl:=sj hy
    exact eR r r
def p_S (K:Nat) (a0:(List Int)):Nat→Int→Int→Option Int
 | 0,_,_=>none
 | n+1,v3_2,v4_2=>(bif (decide (v4_2 < (a0.length:Int))) then (ixP a0 v4_2 fun v4=>p_S K a0 n (if v4 < v3_2 then v4 else v3_2) (w64 (v4_2+1))) else some v3_2)
def p_W (K:Nat) (a0:(List Int)):Option Int :=
 (((bif (decide ((a0.length:Int) < 1)) then none else some ()):Option Unit).bind fun _=>(ixP a0 0 fun v2=>((p_S K a0 K v2 1:Option Int).bind fun v3_3=>some v3_3)))
theorem w_fl {K:Nat}{a0:(List Int)}{y:Int} (hy:p_W K a0=some y):Does PP GV 92 [] [((SL 1 I) a0)] [] [] (I y):=by
 unfold p_W at hy
 refine does_of at92 r (le_ok r)<|?_
 rintro ⟨_,base,w0,F⟩ rfl
 refine rg r<|bkH hy fun o1 hy k1 hk1 hc1=>meetD [0] [] r r (fun (p:Unit)=>match p with | _=>([],[],k1 ()=some y)) ?_ ?_
 ·skip
  refine reg 3 r<|go 1 r<|lnf (f:=I) slB29 r r r<|go 1 r<|dn<|cdH r hy (fun hy=>?_) fun hy=>?_
  ·refine reg1 2 r<|?_
   cases hy
  ·exact at_skip<|metD () .nil .nil r r (sj2 hy hc1)
 ·rintro ⟨⟩ cl hy
  subst hk1
  refine nf r r<|reg 4 r<|go 1 r<|ixH hy fun i1 v2 qi1 xv2 hy=>fixP (f:=I) sl29 qi1 xv2 r r r r<|fld tk3 r r r r<|go 1 r<|dn<|bkH hy fun o2 hy k2 hk2 hc2=>meetD [] [] r r (fun (p:Int)=>match p with | v3_3=>([(3,(I v3_3))],[],k2 v3_3=some y)) ?_ ?_
  ·skip
   refine rg r<|at_block<|loopD [0] [] r r (fun (p:Nat × Int × Int)=>match p with | (n3,v3_2,v4_2)=>([(3,(I v3_2)),(4,(I v4_2))],[],p_S K a0 n3 v3_2 v4_2=some o2)) (K,v2,1) (lk r) .nil hy<|?_
   rintro ⟨n3,v3_2,v4_2⟩ cl hy
   obtain _ | n3:=n3;· cases hy
   refine nf r r<|?_
   replace hy:_=some _:=hy
   rw [p_S] at hy
   refine at_seq<|reg 4 r<|go 2 r<|lnf (f:=I) slB29 r r r<|go 1 r<|dn<|cdH r hy (fun hy=>?_) fun hy=>?_
   ·refine at_skip<|at_seq<|at_block<|reg1 7 r<|go 3 r<|ixH hy fun i3 v4 qi3 xv4 hy=>fixP (f:=I) sl29 qi3 xv4 r r r r<|fld tk3 r r r r<|rg_min (gd_of r) (ev_of r) (ev_of r) (lt_ok r)<|go 1 r<|dn<|at_bn<|rg1 r<|againD (n3,(if v4 < v3_2 then v4 else v3_2),(w64 (v4_2+1))) (lk r) .nil r r hy r
   ·exact at_exit<|at_te<|at_te<|at_inBlock<|metD v3_2 (lk r) .nil r r (sj2 hy hc2)
  ·rintro v3_3 cl hy
   subst hk2
   refine nf r r<|rg r<|at_ret<|?_
   obtain rfl:=sj hy
   exact eR r r
def p_ch (K:Nat) (a0:Fo):Nat→Int→(List Int)→Int→Int→(Mp Int Int)→Option (Sum (Int × (Mp Int Int)) (Sum (Mp Int Int) Bool))
 | 0,_,_,_,_,_=>none
 | n+1,v4_1,v55_1,v56_1,v57_1,m2_1=>(bif (decide (v57_1 < v56_1)) then (ixP v55_1 v57_1 fun v14=>(bif (decide (v14 < a0.n)) then (bif (decide (((m2_1.get? v14).getD 0) > 0)) then some (.inr (.inr false)) else p_ch K a0 n v4_1 v55_1 v56_1 (w64 (v57_1+1)) (m2_1.set v14 (w64 (((m2_1.get? v14).getD 0)+1)))) else p_ch K a0 n v4_1 v55_1 v56_1 (w64 (v57_1+1)) (m2_1.set v14 (w64 (((m2_1.get? v14).getD 0)+1))))) else some (.inl (v4_1,m2_1)))
def p_cC (K:Nat) (a0:Fo):Nat→Int→Int→(Mp Int Int)→Option (Sum (Mp Int Int) Bool)
 | 0,_,_,_=>none
 | n+1,v4_3,v18_3,m2_3=>(bif (decide (v18_3 < (a0.rings.length:Int))) then (((ixP a0.rings v18_3 fun v3=>(bif ((v3.length:Int) == 0) then some (.inr (.inr false)) else (ixP v3 0 fun v5=>(bif (decide (v5≤v4_3)) then some (.inr (.inr false)) else ((p_c3 K v3).bind fun r6=>(bif (!r6) then some (.inr (.inr false)) else ((p_W K v3).bind fun r7=>(ixP v3 0 fun v9=>(bif (r7 != v9) then some (.inr (.inr false)) else ((p_eZ K a0.n v3).bind fun r10=>(bif (!r10) then some (.inr (.inr false)) else (ixP v3 0 fun v12=>p_ch K a0 K v12 v3 (v3.length:Int) 0 m2_3)))))))))))):Option (Sum (Int × (Mp Int Int)) (Sum (Mp Int Int) Bool))).bind fun | .inl (v4_2,m2_2)=>p_cC K a0 n v4_2 (w64 (v18_3+1)) m2_2 | .inr r=>some r) else some (.inl m2_3))
def p_cD (K:Nat) (a0:Fo) (m2_4:(Mp Int Int)):Nat→Int→Option (Sum Unit Bool)
 | 0,_=>none
 | n+1,v79_5=>(bif (decide (v79_5 < a0.n)) then (bif (((m2_4.get? v79_5).getD 0) == 0) then some (.inr false) else p_cD K a0 m2_4 n (w64 (v79_5+1))) else some (.inl ()))
def p_dt (K:Nat) (a0:Fo):Option Bool :=
 ((p_c4 K a0.n).bind fun r1=>(bif (!r1) then some false else ((p_cC K a0 K (-1) 0 (Mp.empty:(Mp Int Int)):Option (Sum (Mp Int Int) Bool)).bind fun | .inl m2_4=>((p_cD K a0 m2_4 K 0:Option (Sum Unit Bool)).bind fun | .inl _=>some true | .inr r=>some r) | .inr r=>some r)))
theorem w_fT {K:Nat}{a0:Fo}{y:Bool} (hy:p_dt K a0=some y):Does PP GV 64 [] [(FoA a0)] [] [] (B y):=by
 unfold p_dt at hy
 refine does_of at64 r (le_ok r)<|?_
 rintro ⟨_,base,w0,F⟩ rfl
 refine reg 2 r<|bx 1 r r r r<|go 1 r<|dn<|at_seq<|reg 4 r<|fa fo81_0 r r r<|ld tk3 r r r r r r<|bndH hy fun r1 qr1 hy=>clc (w_fo qr1) ca91 r r r<|go 1 r<|dn<|cdH r hy (fun hy=>?_) fun hy=>?_
 ·refine rg r<|at_ret<|?_
  obtain rfl:=sj hy
  exact eR r r
 ·refine at_skip<|reg 2 r<|mkM (κ:=Int) (ν:=Int) (Value.int .i64) I 2 r r<|go 1 r<|dn<|rg r<|bkH hy fun o1 hy k1 hk1 hc1=>meetD [1] [1] r r (fun (p:(Mp Int Int) × Nat)=>match p with | (m2_4,g2_1)=>([(3,.mp 2 g2_1)],[(2,some (g2_1,.map (encM (Value.int .i64) I m2_4)))],k1 (.inl m2_4)=some y)) ?_ ?_
  ·skip
   refine reg 4 r<|fa fo81_1 r r r<|ld tk30 r r r r r r<|lnf (f:=(SL 1 I)) slB30 r r r<|go 1 r<|dn<|at_block<|loopD [1,16,17] [1] r r (fun (p:Nat × Int × Int × (Mp Int Int) × Nat)=>match p with | (n2,v4_3,v18_3,m2_3,g2_2)=>([(3,.mp 2 g2_2),(4,(I v4_3)),(18,(I v18_3))],[(2,some (g2_2,.map (encM (Value.int .i64) I m2_3)))],p_cC K a0 n2 v4_3 v18_3 m2_3=some o1)) (K,(-1),0,(Mp.empty:(Mp Int Int)),_) (lk r) (hk r) hy<|?_
   rintro ⟨n2,v4_3,v18_3,m2_3,g2_2⟩ cl hy
   obtain _ | n2:=n2;· cases hy
   refine nf r r<|?_
   replace hy:_=some _:=hy
   rw [p_cC] at hy
   refine rg r<|at_seq<|cdH r hy (fun hy=>?_) fun hy=>?_
   ·refine at_skip<|bkH hy fun o3 hy k3 hk3 hc3=>meetD [1,16,17,18] [1] r r (fun (p:Int × (Mp Int Int) × Nat)=>match p with | (v4_2,m2_2,g2_3)=>([(3,.mp 2 g2_3),(4,(I v4_2))],[(2,some (g2_3,.map (encM (Value.int .i64) I m2_2)))],k3 (.inl (v4_2,m2_2))=some o1)) ?_ ?_
    ·skip
     refine at_block<|reg 3 r<|ixH hy fun i2 v3 qi2 xv3 hy=>fixP (f:=(SL 1 I)) sl30 qi2 xv3 r r r r<|fld tk29 r r r r<|go 1 r<|dn<|at_seq<|regd mixed 30 r<|go 1 r<|lnf (f:=I) slB29 r r r<|go 2 r<|casH 25 r hy (fun hy=>?_) fun hy=>?_
     ·refine go 26 r<|dn ⟨by kernel_rfl,?_⟩
      refine cdt r<|rg r<|at_ret<|?_
      obtain rfl:=sj hy
      subst hk3;obtain rfl:=sj hc3
      subst hk1;obtain rfl:=sj hc1
      exact eR r r
     ·refine go 1 r<|ixH hy fun i4 v5 qi4 xv5 hy=>fixP (f:=I) sl29 qi4 xv5 r r r r<|fld tk3 r r r r<|go 4 r<|casH 32 r hy (fun hy=>?_) fun hy=>?_
      ·refine go 19 r<|dn ⟨by kernel_rfl,?_⟩
       refine cdt r<|rg r<|at_ret<|?_
       obtain rfl:=sj hy
       subst hk3;obtain rfl:=sj hc3
       subst hk1;obtain rfl:=sj hc1
       exact eR r r
      ·refine go 1 r<|bndH hy fun r6 qr6 hy=>clc (w_fn qr6) ca39 r r r<|go 3 r<|casH 37 r hy (fun hy=>?_) fun hy=>?_
       ·refine go 14 r<|dn ⟨by kernel_rfl,?_⟩
        refine cdt r<|rg r<|at_ret<|?_
        obtain rfl:=sj hy
        subst hk3;obtain rfl:=sj hc3
        subst hk1;obtain rfl:=sj hc1
        exact eR r r
       ·refine go 1 r<|bndH hy fun r7 qr7 hy=>clc (w_fl qr7) ca92 r r r<|go 1 r<|ixH hy fun i8 v9 qi8 xv9 hy=>fixP (f:=I) sl29 qi8 xv9 r r r r<|fld tk3 r r r r<|go 3 r<|casH 45 r hy (fun hy=>?_) fun hy=>?_
        ·refine go 6 r<|dn ⟨by kernel_rfl,?_⟩
         refine cdt r<|rg r<|at_ret<|?_
         obtain rfl:=sj hy
         subst hk3;obtain rfl:=sj hc3
         subst hk1;obtain rfl:=sj hc1
         exact eR r r
        ·refine fa fo81_0 r r r<|ld tk3 r r r r r r<|go 1 r<|bndH hy fun r10 qr10 hy=>clc (w_g5 qr10) ca93 r r r<|go 2 r<|dn ⟨by kernel_rfl,?_⟩
         refine cdH r hy (fun hy=>?_) fun hy=>?_
         ·refine rg r<|at_ret<|?_
          obtain rfl:=sj hy
          subst hk3;obtain rfl:=sj hc3
          subst hk1;obtain rfl:=sj hc1
          exact eR r r
         ·refine at_skip<|reg 4 r<|go 1 r<|ixH hy fun i11 v12 qi11 xv12 hy=>fixP (f:=I) sl29 qi11 xv12 r r r r<|fld tk3 r r r r<|go 1 r<|dn<|reg 3 r<|go 1 r<|lnf (f:=I) slB29 r r r<|go 1 r<|dn<|at_block<|loopD [1,16,17,18] [1] r r (fun (p:Nat × Int × (List Int) × Int × Int × (Mp Int Int) × Nat)=>match p with | (n4,v4_1,v55_1,v56_1,v57_1,m2_1,g2_4)=>([(3,.mp 2 g2_4),(4,(I v4_1)),(55,((SL 1 I) v55_1)),(56,(I v56_1)),(57,(I v57_1))],[(2,some (g2_4,.map (encM (Value.int .i64) I m2_1)))],p_ch K a0 n4 v4_1 v55_1 v56_1 v57_1 m2_1=some o3)) (K,v12,v3,(v3.length:Int),0,m2_3,_) (lk r) (hk r) hy<|?_
          rintro ⟨n4,v4_1,v55_1,v56_1,v57_1,m2_1,g2_4⟩ cl hy
          obtain _ | n4:=n4;· cases hy
          refine nf r r<|?_
          replace hy:_=some _:=hy
          rw [p_ch] at hy
          refine rg r<|at_seq<|cdH r hy (fun hy=>?_) fun hy=>?_
          ·refine at_skip<|at_seq<|at_block<|reg 3 r<|ixH hy fun i13 v14 qi13 xv14 hy=>fixP (f:=I) sl29 qi13 xv14 r r r r<|fld tk3 r r r r<|go 1 r<|dn<|at_seq<|reg 10 r<|go 1 r<|fa fo81_0 r r r<|ld tk3 r r r r r r<|go 2 r<|casH 65 r hy (fun hy=>?_) fun hy=>?_
           ·refine go 2 r<|lkMZ (ev:=I) (m:=m2_1) (z0:=0) (kInt ui3) mt61 zo3 (fun _=>Option.some_ne_none _) (fun _ _ h=>h) r r r r r r<|go 2 r<|dn<|cdH r hy (fun hy=>?_) fun hy=>?_
            ·refine rg r<|at_ret<|?_
             obtain rfl:=sj hy
             subst hk3;obtain rfl:=sj hc3
             subst hk1;obtain rfl:=sj hc1
             exact eR r r
            ·refine at_skip<|reg1 5 r<|go 2 r<|lkMZ (ev:=I) (m:=m2_1) (z0:=0) (kInt ui3) mt61 zo3 (fun _=>Option.some_ne_none _) (fun _ _ h=>h) r r r r r r<|go 1 r<|upM (ev:=I) (m:=m2_1) (kInt ui3) mt61 (v:=(w64 (((m2_1.get? v14).getD 0)+1))) (Option.some_ne_none _) r r r r r r<|dn<|at_bn<|rg1 r<|againD (n4,v4_1,v55_1,v56_1,(w64 (v57_1+1)),(m2_1.set v14 (w64 (((m2_1.get? v14).getD 0)+1))),_) (lk r) (hk r) r r hy r
           ·refine go 5 r<|dn<|cdf r<|at_skip<|reg1 5 r<|go 2 r<|lkMZ (ev:=I) (m:=m2_1) (z0:=0) (kInt ui3) mt61 zo3 (fun _=>Option.some_ne_none _) (fun _ _ h=>h) r r r r r r<|go 1 r<|upM (ev:=I) (m:=m2_1) (kInt ui3) mt61 (v:=(w64 (((m2_1.get? v14).getD 0)+1))) (Option.some_ne_none _) r r r r r r<|dn<|at_bn<|rg1 r<|againD (n4,v4_1,v55_1,v56_1,(w64 (v57_1+1)),(m2_1.set v14 (w64 (((m2_1.get? v14).getD 0)+1))),_) (lk r) (hk r) r r hy r
          ·exact at_exit<|at_te<|at_te<|at_inBlock<|at_bn<|metD (v4_1,m2_1,_) (lk r) (hk r) r r (sj2 hy hc3)
    ·rintro ⟨v4_2,m2_2,g2_3⟩ cl hy
     subst hk3
     refine nf r r<|rg1 r<|againD (n2,v4_2,(w64 (v18_3+1)),m2_2,_) (lk r) (hk r) r r hy r
   ·exact at_exit<|at_te<|at_te<|at_inBlock<|metD (m2_3,_) (lk r) (hk r) r r (sj2 hy hc1)
  ·rintro ⟨m2_4,g2_1⟩ cl hy
   subst hk1
   refine nf r r<|bkH hy fun o5 hy k5 hk5 hc5=>meetD [] [] r r (fun (p:Unit)=>match p with | _=>([],[],k5 (.inl ())=some y)) ?_ ?_
   ·skip
    refine reg 3 r<|fa fo81_0 r r r<|ld tk3 r r r r r r<|go 1 r<|dn<|at_block<|loopD [3,78] [2] r r (fun (p:Nat × Int)=>match p with | (n6,v79_5)=>([(79,(I v79_5))],[],p_cD K a0 m2_4 n6 v79_5=some o5)) (K,0) (lk r) .nil hy<|?_
    rintro ⟨n6,v79_5⟩ cl hy
    obtain _ | n6:=n6;· cases hy
    refine nf r r<|?_
    replace hy:_=some _:=hy
    rw [p_cD] at hy
    refine rg r<|at_seq<|cdH r hy (fun hy=>?_) fun hy=>?_
    ·refine at_skip<|at_seq<|at_block<|rg r<|reg 4 r<|go 2 r<|lkMZ (ev:=I) (m:=m2_4) (z0:=0) (kInt ui3) mt61 zo3 (fun _=>Option.some_ne_none _) (fun _ _ h=>h) r r r r r r<|go 1 r<|dn<|cdH r hy (fun hy=>?_) fun hy=>?_
     ·refine rg r<|at_ret<|?_
      obtain rfl:=sj hy
      subst hk5;obtain rfl:=sj hc5
      exact eR r r
     ·refine at_skip<|at_bn<|rg1 r<|againD (n6,(w64 (v79_5+1))) (lk r) .nil r r hy r
    ·exact at_exit<|at_te<|at_te<|at_inBlock<|metD () .nil .nil r r (sj2 hy hc5)
   ·rintro ⟨⟩ cl hy
    subst hk5
    refine nf r r<|rg r<|at_ret<|?_
    obtain rfl:=sj hy
    exact eR r r
def p_d0 (K:Nat) (a0:Fo) (a1:(List Int)):Option Int :=
 ((p_dt K a0).bind fun r1=>(bif (!r1) then some 1 else ((p_e K a1 (fun (x0:Int)=>p_eg K x0 a0)).bind fun r2=>(bif r2 then some 10 else some 0))))
theorem w_gJ {K:Nat}{a0:Fo}{a1:(List Int)}{y:Int} (hy:p_d0 K a0 a1=some y):Does PP GV 130 [] [(FoA a0),((SL 1 I) a1)] [] [] (I y):=by
 unfold p_d0 at hy
 refine does_of at130 r (le_ok r)<|?_
 rintro ⟨_,base,w0,F⟩ rfl
 refine reg 2 r<|bx 1 r r r r<|go 1 r<|dn<|at_seq<|reg 3 r<|ldw tk81 r r r r r r<|bndH hy fun r1 qr1 hy=>clc (w_fT qr1) ca64 r r r<|go 1 r<|dn<|cdH r hy (fun hy=>?_) fun hy=>?_
 ·refine rg r<|at_ret<|?_
  obtain rfl:=sj hy
  exact eR r r
 ·refine at_skip<|at_seq<|frzB (e:=(FoA a0)) 2 1 r r (pu_Fo _)<|reg 3 r<|go 1 r<|rg_makeFunc (gd_of r) (evL_of r) (evL_of r) r (lt_ok r)<|bndH hy fun r2 qr2 hy=>clp (w_bR (a1h:=fun h=>w_gy h) (a1k:=ca140) (a1l:=⟨r,r⟩) (a1p:=.nil) (a1q:=.cons ((pu_fp pu_Fo) _) (.nil)) qr2) ca40 r r (.cons ((pu_l 1 pu_I) _) (.cons (pu_fn (.nil) (.cons ((pu_fp pu_Fo) _) (.nil))) (.nil))) (.one (pu_B _)) r<|dn<|cdH r hy (fun hy=>?_) fun hy=>?_
  ·refine rg r<|at_ret<|?_
   obtain rfl:=sj hy
   exact eR r r
  ·refine at_skip<|rg r<|at_ret<|?_
   obtain rfl:=sj hy
   exact eR r r
def p_cr (K:Nat) (a1:(List Ed)) (a2:(Fo→Int→Int→Option (Fo × Int))):Nat→Int→Int→(List (List Int))→(List Bool)→Option (Int × (List (List Int)) × (List Bool))
 | 0,_,_,_,_=>none
 | n+1,v25_1,v1_1,v1_1_1,l1010_1=>(bif (decide (v25_1 < (a1.length:Int))) then (ixP a1 v25_1 fun v4=>((a2 (Fo.mk v1_1 v1_1_1) v4.u v4.v).bind fun r5=>(apP 1 l1010_1.length [(r5.2 == 0)].length (p_cr K a1 a2 n (w64 (v25_1+1)) r5.1.n r5.1.rings (l1010_1++[(r5.2 == 0)]))))) else some (v1_1,v1_1_1,l1010_1))
def p_fb (K:Nat) (a0:Fo) (a1:(List Ed)) (a2:(Fo→Int→Int→Option (Fo × Int))):Option (Fo × (List Bool) × Int) :=
 ((p_ek K a1).bind fun r1=>((p_d0 K a0 r1).bind fun r2=>(bif (r2 != 0) then some (a0,[],r2) else ((p_cr K a1 a2 K 0 a0.n a0.rings []:Option (Int × (List (List Int)) × (List Bool))).bind fun (v1_2,v1_2_1,l1010_2)=>some ((Fo.mk (Fo.mk v1_2 v1_2_1).n (Fo.mk v1_2 v1_2_1).rings),l1010_2,0)))))
theorem w_gP {K:Nat}{a0:Fo}{a1:(List Ed)}{a2:(Fo→Int→Int→Option (Fo × Int))}{y:(Fo × (List Bool) × Int)}{a2f:FuncId}{a2s a2c:List AV} (a2h:∀ {x0:Fo}{x1:Int}{x2:Int}{r:(Fo × Int)},a2 x0 x1 x2=some r→Does PP GV a2f [] (a2s++[(FoA x0),(I x1),(I x2)]++a2c) [] [] (.tup [(FoA r.1),(I r.2)])) (a2k:callable PP a2f=true) (a2l:a2s.all flat=true∧a2c.all flat=true) (a2p:PuL a2s) (a2q:PuL a2c) (hy:p_fb K a0 a1 a2=some y):Does PP GV 112 [] [(FoA a0),((SL 2 EdA) a1),.fn (.func a2f) a2s a2c] [] [] (.tup [(FoA y.1),((SL 1 B) y.2.1),(I y.2.2)]):=by
 unfold p_fb at hy
 refine does_of at112 r (le_ok r)<|?_
 rintro ⟨_,base,w0,F⟩ rfl
 refine reg 4 r<|bx 1 r r r r<|rg_alloc (s:=2) (gd_of r) zc81 (elems_one (by rfl)) (lt_ok r)<|go 2 r<|dn<|at_seq<|regd mixed 5 r<|ldw tk81 r r r r r r<|go 1 r<|bndH hy fun r1 qr1 hy=>clc (w_gO qr1) ca131 r r r<|bndH hy fun r2 qr2 hy=>clc (w_gJ qr2) ca130 r r r<|go 1 r<|dn ⟨by kernel_rfl,?_⟩
 refine rg r<|cdH r hy (fun hy=>?_) fun hy=>?_
 ·refine reg 5 r<|ldw tk81 r r r r r r<|go 1 r<|str tk81 r r r r r r r<|go 2 r<|dn<|at_ret<|atnilP (B) 7 1 r<|?_
  obtain rfl:=sj hy
  exact mR r r (.c r r r tk81 r (.t r (.t r .nil)))
 ·refine at_skip<|rg r<|bkH hy fun o1 hy k1 hk1 hc1=>meetD [6] [2] r r (fun (p:Int × (List (List Int)) × (List Bool) × Nat × Nat)=>match p with | (v1_2,v1_2_1,l1010_2,g1_1,g1010_1)=>([(3,.ptr 1 g1_1 0 0),(10,.own 1010 g1010_1 1 0 (l1010_2).length false)],[(1,some (g1_1,.buf 2 [.agg [(I v1_2),((SL 1 (SL 1 I)) v1_2_1)]])),(1010,some (g1010_1,.buf 1 (l1010_2.map B)))],k1 (v1_2,v1_2_1,l1010_2)=some y)) ?_ ?_
  ·skip
   refine reg 3 r<|go 1 r<|lnf (f:=EdA) slB41 r r r<|go 1 r<|dn<|at_block<|niloP (B) 10 1010 1 r<|loopD [2,6,23,24] [2] r r (fun (p:Nat × Int × Int × (List (List Int)) × (List Bool) × Nat × Nat)=>match p with | (n2,v25_1,v1_1,v1_1_1,l1010_1,g1_2,g1010_2)=>([(3,.ptr 1 g1_2 0 0),(10,.own 1010 g1010_2 1 0 (l1010_1).length false),(25,(I v25_1))],[(1,some (g1_2,.buf 2 [.agg [(I v1_1),((SL 1 (SL 1 I)) v1_1_1)]])),(1010,some (g1010_2,.buf 1 (l1010_1.map B)))],p_cr K a1 a2 n2 v25_1 v1_1 v1_1_1 l1010_1=some o1)) (K,0,a0.n,a0.rings,[],_,_) (lk r) (hk r) hy<|?_
   rintro ⟨n2,v25_1,v1_1,v1_1_1,l1010_1,g1_2,g1010_2⟩ cl hy
   obtain _ | n2:=n2;· cases hy
   refine nf r r<|?_
   replace hy:_=some _:=hy
   rw [p_cr] at hy
   refine rg r<|at_seq<|cdH r hy (fun hy=>?_) fun hy=>?_
   ·refine at_skip<|at_seq<|at_block<|reg 4 r<|ixH hy fun i3 v4 qi3 xv4 hy=>fixP (f:=EdA) sl41 qi3 xv4 r r r r<|fldw tk47 r r r r<|rg_alloc (s:=3) (gd_of r) zc47 (elems_one (by rfl)) (lt_ok r)<|str tk47 r r r r r r r<|dn<|reg 13 r<|go 1 r<|ldw tk81 r r r r r r<|fa fo47_0 r r r<|ld tk3 r r r r r r<|fa fo47_1 r r r<|ld tk3 r r r r r r<|bndH hy fun r5 qr5 hy=>clv (a2h qr5) a2k r r r r a2l (puL3 a2p (.cons (pu_Fo _) (.cons (pu_I _) (.cons (pu_I _) (.nil)))) a2q) (.tup (.cons (pu_Fo _) (.cons (pu_I _) (.nil)))) r<|go 3 r<|rg_alloc (s:=4) (gd_of r) zc81 (elems_one (by rfl)) (lt_ok r)<|str tk81 r r r r r r r<|go 1 r<|dn<|reg 6 r<|go 3 r<|bldsP B ([(r5.2 == 0)]:List Bool) 5 se66 r r r r r r r<|apH hy fun k6a k6b hy=>apoP (f:=B) (l:=l1010_1) (zs:=[(r5.2 == 0)]) se66 k6a k6b r r r r r r<|go 1 r<|dn<|reg1 2 r<|ldw tk81 r r r r r r<|str tk81 r r r r r r r<|dn<|at_bn<|rg1 r<|againD (n2,(w64 (v25_1+1)),r5.1.n,r5.1.rings,(l1010_1++[(r5.2 == 0)]),_,_) (lk r) (hk r) r r hy r
   ·exact at_exit<|at_te<|at_te<|at_inBlock<|metD (v1_1,v1_1_1,l1010_1,_,_) (lk r) (hk r) r r (sj2 hy hc1)
  ·rintro ⟨v1_2,v1_2_1,l1010_2,g1_1,g1010_1⟩ cl hy
   subst hk1
   refine nf r r<|reg 5 r<|ldw tk81 r r r r r r<|go 1 r<|str tk81 r r r r r r r<|go 2 r<|dn<|at_ret<|frzP (f:=B) (l:=l1010_2) 7 1010 r r pu_B<|?_
   obtain rfl:=sj hy
   exact mR r r (.c r r r tk81 r (.t r (.t r .nil)))
def p_8 (K:Nat) (a0:(List Int)) (a1:Int):Nat→Int→Option (Sum Unit Int)
 | 0,_=>none
 | n+1,v8_1=>(bif (decide (v8_1 < (a0.length:Int))) then (ixP a0 v8_1 fun v2=>(bif (a1 == v2) then some (.inr v8_1) else p_8 K a0 a1 n (w64 (v8_1+1)))) else some (.inl ()))
def p_7 (K:Nat) (a0:(List Int)) (a1:Int):Option Int :=
 ((p_8 K a0 a1 K 0:Option (Sum Unit Int)).bind fun | .inl _=>some (-1) | .inr r=>some r)
theorem w_dE {K:Nat}{a0:(List Int)}{a1:Int}{y:Int} (hy:p_7 K a0 a1=some y):Does PP GV 116 [] [((SL 1 I) a0),(I a1)] [] [] (I y):=by
 unfold p_7 at hy
 refine does_of at116 r (le_ok r)<|?_
 rintro ⟨_,base,w0,F⟩ rfl
 refine rg r<|bkH hy fun o1 hy k1 hk1 hc1=>meetD [] [] r r (fun (p:Unit)=>match p with | _=>([],[],k1 (.inl ())=some y)) ?_ ?_
 ·skip
  refine reg 3 r<|go 1 r<|lnf (f:=I) slB29 r r r<|go 1 r<|dn<|at_block<|loopD [0,1,7] [] r r (fun (p:Nat × Int)=>match p with | (n2,v8_1)=>([(8,(I v8_1))],[],p_8 K a0 a1 n2 v8_1=some o1)) (K,0) (lk r) .nil hy<|?_
  rintro ⟨n2,v8_1⟩ cl hy
  obtain _ | n2:=n2;· cases hy
  refine nf r r<|?_
  replace hy:_=some _:=hy
  rw [p_8] at hy
  refine rg r<|at_seq<|cdH r hy (fun hy=>?_) fun hy=>?_
  ·refine at_skip<|at_seq<|at_block<|rg r<|reg 6 r<|go 3 r<|ixH hy fun i1 v2 qi1 xv2 hy=>fixP (f:=I) sl29 qi1 xv2 r r r r<|fld tk3 r r r r<|go 1 r<|dn<|cdH r hy (fun hy=>?_) fun hy=>?_
   ·refine rg r<|at_ret<|?_
    obtain rfl:=sj hy
    subst hk1;obtain rfl:=sj hc1
    exact eR r r
   ·refine at_skip<|at_bn<|rg1 r<|againD (n2,(w64 (v8_1+1))) (lk r) .nil r r hy r
  ·exact at_exit<|at_te<|at_te<|at_inBlock<|metD () .nil .nil r r (sj2 hy hc1)
 ·rintro ⟨⟩ cl hy
  subst hk1
  refine nf r r<|rg r<|at_ret<|?_
  obtain rfl:=sj hy
  exact eR r r
def p_I (K:Nat) (a0:(List Int)) (a1:Int):Option Bool :=
 ((p_7 K a0 a1).bind fun r1=>some (decide (r1≥0)))
theorem w_db {K:Nat}{a0:(List Int)}{a1:Int}{y:Bool} (hy:p_I K a0 a1=some y):Does PP GV 96 [] [((SL 1 I) a0),(I a1)] [] [] (B y):=by
 unfold p_I at hy
 refine does_of at96 r (le_ok r)<|?_
 rintro ⟨_,base,w0,F⟩ rfl
 refine rg r<|reg 5 r<|go 2 r<|bndH hy fun r1 qr1 hy=>clc (w_dE qr1) ca116 r r r<|go 2 r<|dn<|at_ret<|?_
 obtain rfl:=sj hy
 exact eR r r
def p_b1 (K:Nat) (a1:(List Int)) (a0:(List Int)):Nat→Int→(List Int)→Option (List Int)
 | 0,_,_=>none
 | n+1,v14_1,l1006_1=>(bif (decide (v14_1 < (a1.length:Int))) then (ixP a1 v14_1 fun v3=>((p_7 K a0 v3).bind fun r4=>(apP 8 l1006_1.length [r4].length (p_b1 K a1 a0 n (w64 (v14_1+1)) (l1006_1++[r4]))))) else some l1006_1)
def p_fc (K:Nat) (a0:(List Int)) (a1:(List Int)):Option ((List Int) × Bool) :=
 ((p_c3 K a0).bind fun r1=>(bif (!r1) then some ([],false) else ((p_b1 K a1 a0 K 0 []:Option (List Int)).bind fun l1006_2=>((p_I K l1006_2 (-1)).bind fun r6=>some (l1006_2,(!r6))))))
theorem w_gQ {K:Nat}{a0:(List Int)}{a1:(List Int)}{y:((List Int) × Bool)} (hy:p_fc K a0 a1=some y):Does PP GV 141 [] [((SL 1 I) a0),((SL 1 I) a1)] [] [] (.tup [((SL 1 I) y.1),(B y.2)]):=by
 unfold p_fc at hy
 refine does_of at141 r (le_ok r)<|?_
 rintro ⟨_,base,w0,F⟩ rfl
 refine rg r<|at_seq<|reg 3 r<|go 1 r<|bndH hy fun r1 qr1 hy=>clc (w_fn qr1) ca39 r r r<|go 1 r<|dn<|cdH r hy (fun hy=>?_) fun hy=>?_
 ·refine rg r<|at_ret<|atnilP (I) 4 1 r<|?_
  obtain rfl:=sj hy
  exact mR r r (.t r (.t r .nil))
 ·refine at_skip<|rg r<|bkH hy fun o1 hy k1 hk1 hc1=>meetD [] [] r r (fun (p:(List Int) × Nat)=>match p with | (l1006_2,g1006_1)=>([(6,.own 1006 g1006_1 1 0 (l1006_2).length false)],[(1006,some (g1006_1,.buf 1 (l1006_2.map I)))],k1 l1006_2=some y)) ?_ ?_
  ·skip
   refine reg 3 r<|go 1 r<|lnf (f:=I) slB29 r r r<|go 1 r<|dn<|at_block<|niloP (I) 6 1006 1 r<|loopD [0,12,13] [] r r (fun (p:Nat × Int × (List Int) × Nat)=>match p with | (n2,v14_1,l1006_1,g1006_2)=>([(6,.own 1006 g1006_2 1 0 (l1006_1).length false),(14,(I v14_1))],[(1006,some (g1006_2,.buf 1 (l1006_1.map I)))],p_b1 K a1 a0 n2 v14_1 l1006_1=some o1)) (K,0,[],_) (lk r) (hk r) hy<|?_
   rintro ⟨n2,v14_1,l1006_1,g1006_2⟩ cl hy
   obtain _ | n2:=n2;· cases hy
   refine nf r r<|?_
   replace hy:_=some _:=hy
   rw [p_b1] at hy
   refine rg r<|at_seq<|cdH r hy (fun hy=>?_) fun hy=>?_
   ·refine at_skip<|at_seq<|at_block<|reg 3 r<|ixH hy fun i2 v3 qi2 xv3 hy=>fixP (f:=I) sl29 qi2 xv3 r r r r<|fld tk3 r r r r<|go 1 r<|dn<|reg1 7 r<|go 3 r<|bndH hy fun r4 qr4 hy=>clc (w_dE qr4) ca116 r r r<|bldsP I ([r4]:List Int) 1 se29 r r r r r r r<|apH hy fun k5a k5b hy=>apoP (f:=I) (l:=l1006_1) (zs:=[r4]) se29 k5a k5b r r r r r r<|go 1 r<|dn<|at_bn<|rg1 r<|againD (n2,(w64 (v14_1+1)),(l1006_1++[r4]),_) (lk r) (hk r) r r hy r
   ·exact at_exit<|at_te<|at_te<|at_inBlock<|metD (l1006_1,_) (lk r) (hk r) r r (sj2 hy hc1)
  ·rintro ⟨l1006_2,g1006_1⟩ cl hy
   subst hk1
   refine nf r r<|frzP (f:=I) (l:=l1006_2) 6 1006 r r pu_I<|reg 6 r<|go 2 r<|bndH hy fun r6 qr6 hy=>clc (w_db qr6) ca96 r r r<|go 3 r<|dn<|at_ret<|?_
   obtain rfl:=sj hy
   exact mR r r (.t r (.t r .nil))
def p_m (K:Nat) (a0:(List (List Int))):Nat→Int→Int→Option Int
 | 0,_,_=>none
 | n+1,v3_1,v11_1=>(bif (decide (v11_1 < (a0.length:Int))) then (ixP a0 v11_1 fun v2=>(bif (decide ((w64 (v3_1+(v2.length:Int))) < 0)) then none else p_m K a0 n (w64 (v3_1+(v2.length:Int))) (w64 (v11_1+1)))) else some v3_1)
def p_n (K:Nat) (a0:(List (List Int))):Nat→Int→(List Int)→Option (List Int)
 | 0,_,_=>none
 | n+1,v27_3,l1_3=>(bif (decide (v27_3 < (a0.length:Int))) then (ixP a0 v27_3 fun v5=>(apP 8 l1_3.length v5.length (p_n K a0 n (w64 (v27_3+1)) (l1_3++v5)))) else some l1_3)
def p_bn (K:Nat) (a0:(List (List Int))):Option (List Int) :=
 ((p_m K a0 K 0 0:Option Int).bind fun v3_2=>(mkP 8 v3_2 fun i3=>((p_n K a0 K 0 ([]:List Int):Option (List Int)).bind fun l1_4=>some l1_4)))
theorem w_eI {K:Nat}{a0:(List (List Int))}{y:(List Int)} (hy:p_bn K a0=some y):Does PP GV 134 [] [((SL 1 (SL 1 I)) a0)] [] [] ((SL 1 I) y):=by
 unfold p_bn at hy
 refine does_of at134 r (le_ok r)<|?_
 rintro ⟨_,base,w0,F⟩ rfl
 refine rg r<|rg r<|bkH hy fun o1 hy k1 hk1 hc1=>meetD [0] [] r r (fun (p:Int)=>match p with | v3_2=>([(3,(I v3_2))],[],k1 v3_2=some y)) ?_ ?_
 ·skip
  refine reg 3 r<|go 1 r<|lnf (f:=(SL 1 I)) slB30 r r r<|go 1 r<|dn<|at_block<|loopD [0,9,10] [] r r (fun (p:Nat × Int × Int)=>match p with | (n2,v3_1,v11_1)=>([(3,(I v3_1)),(11,(I v11_1))],[],p_m K a0 n2 v3_1 v11_1=some o1)) (K,0,0) (lk r) .nil hy<|?_
  rintro ⟨n2,v3_1,v11_1⟩ cl hy
  obtain _ | n2:=n2;· cases hy
  refine nf r r<|?_
  replace hy:_=some _:=hy
  rw [p_m] at hy
  refine rg r<|at_seq<|cdH r hy (fun hy=>?_) fun hy=>?_
  ·refine at_skip<|at_seq<|at_block<|reg 3 r<|ixH hy fun i1 v2 qi1 xv2 hy=>fixP (f:=(SL 1 I)) sl30 qi1 xv2 r r r r<|fld tk29 r r r r<|go 1 r<|dn<|reg 5 r<|go 2 r<|lnf (f:=I) slB29 r r r<|go 2 r<|dn<|rg r<|cdH r hy (fun hy=>?_) fun hy=>?_
   ·refine reg1 2 r<|?_
    cases hy
   ·refine at_skip<|at_bn<|rg1 r<|againD (n2,(w64 (v3_1+(v2.length:Int))),(w64 (v11_1+1))) (lk r) .nil r r hy r
  ·exact at_exit<|at_te<|at_te<|at_inBlock<|metD v3_1 (lk r) .nil r r (sj2 hy hc1)
 ·rintro v3_2 cl hy
  subst hk1
  refine nf r r<|reg 3 r<|go 1 r<|?_
  obtain ⟨i3,qi3,bi3,hy⟩:=mkI hy
  refine clN (g1:=I) (l':=[]) 1 (w_gq qi3 bi3) ca143 r r pu_I (.cons (.v _) (.cons (.v _) .nil)) r<|go 1 r<|dn<|bkH hy fun o3 hy k3 hk3 hc3=>meetD [] [] r r (fun (p:(List Int) × Nat)=>match p with | (l1_4,g1_3)=>([(6,.own 1 g1_3 1 0 (l1_4).length false)],[(1,some (g1_3,.buf 1 (l1_4.map I)))],k3 l1_4=some y)) ?_ ?_
  ·skip
   refine reg 3 r<|go 1 r<|lnf (f:=(SL 1 I)) slB30 r r r<|go 1 r<|dn<|at_block<|loopD [25,26] [] r r (fun (p:Nat × Int × (List Int) × Nat)=>match p with | (n4,v27_3,l1_3,g1_4)=>([(6,.own 1 g1_4 1 0 (l1_3).length false),(27,(I v27_3))],[(1,some (g1_4,.buf 1 (l1_3.map I)))],p_n K a0 n4 v27_3 l1_3=some o3)) (K,0,([]:List Int),_) (lk r) (hk r) hy<|?_
   rintro ⟨n4,v27_3,l1_3,g1_4⟩ cl hy
   obtain _ | n4:=n4;· cases hy
   refine nf r r<|?_
   replace hy:_=some _:=hy
   rw [p_n] at hy
   refine rg r<|at_seq<|cdH r hy (fun hy=>?_) fun hy=>?_
   ·refine at_skip<|at_seq<|at_block<|reg 3 r<|ixH hy fun i4 v5 qi4 xv5 hy=>fixP (f:=(SL 1 I)) sl30 qi4 xv5 r r r r<|fld tk29 r r r r<|go 1 r<|dn<|reg1 4 r<|go 2 r<|apH hy fun k6a k6b hy=>aplP (f:=I) (l:=l1_3) (zs:=v5) se29 k6a k6b r r r r r<|go 1 r<|dn<|at_bn<|rg1 r<|againD (n4,(w64 (v27_3+1)),(l1_3++v5),_) (lk r) (hk r) r r hy r
   ·exact at_exit<|at_te<|at_te<|at_inBlock<|metD (l1_3,_) (lk r) (hk r) r r (sj2 hy hc3)
  ·rintro ⟨l1_4,g1_3⟩ cl hy
   subst hk3
   refine nf r r<|rg r<|at_ret<|frzP (f:=I) (l:=l1_4) 2 1 r r pu_I<|?_
   obtain rfl:=sj hy
   exact eR r r
def p_dG (K:Nat) (a0:(List Int)) (a1:Int):Option (List Int) :=
 (slP a0 a1 a0.length fun v3=>(slP a0 0 a1 fun v6=>((p_bn K [v3,v6]).bind fun r7=>some r7)))
theorem w_gf {K:Nat}{a0:(List Int)}{a1:Int}{y:(List Int)} (hy:p_dG K a0 a1=some y):Does PP GV 142 [] [((SL 1 I) a0),(I a1)] [] [] ((SL 1 I) y):=by
 unfold p_dG at hy
 refine does_of at142 r (le_ok r)<|?_
 rintro ⟨_,base,w0,F⟩ rfl
 refine rg r<|regd mixed 9 r<|go 2 r<|?_
 obtain ⟨i1,i2,qi1,qi2,bi1,ci1,hy⟩:=slI hy
 refine fsllP (f:=I) sl29 qi1 qi2 bi1 r r r r<|?_
 generalize ((List.take i2 a0).drop i1)=v3 at hy ⊢
 refine go 2 r<|?_
 obtain ⟨i4,i5,qi4,qi5,bi4,ci4,hy⟩:=slI hy
 refine fslhP (f:=I) sl29 qi4 qi5 ci4 r r r r<|?_
 generalize ((List.take i5 a0).drop i4)=v6 at hy ⊢
 refine bldsF (SL 1 I) ([v3,v6]:List (List Int)) 1 (pu_l 1 pu_I) se30 r r r r r r r<|bndH hy fun r7 qr7 hy=>clc (w_eI qr7) ca134 r r r<|go 1 r<|dn ⟨by kernel_rfl,?_⟩
 refine at_ret<|?_
 obtain rfl:=sj hy
 exact eR r r
def p_er (K:Nat) (a0:(List Int)) (a1:Int):Option ((List Int) × Bool) :=
 ((p_fc K a0 [a1]).bind fun r1=>(bif (!r1.2) then some ([],false) else (ixP r1.1 0 fun v3=>((p_dG K a0 v3).bind fun r4=>some (r4,true)))))
theorem w_gt {K:Nat}{a0:(List Int)}{a1:Int}{y:((List Int) × Bool)} (hy:p_er K a0 a1=some y):Does PP GV 133 [] [((SL 1 I) a0),(I a1)] [] [] (.tup [((SL 1 I) y.1),(B y.2)]):=by
 unfold p_er at hy
 refine does_of at133 r (le_ok r)<|?_
 rintro ⟨_,base,w0,F⟩ rfl
 refine rg r<|reg 9 r<|go 2 r<|bldsF I ([a1]:List Int) 1 pu_I se29 r r r r r r r<|bndH hy fun r1 qr1 hy=>clc (w_gQ qr1) ca141 r r r<|go 5 r<|dn<|at_seq<|rg r<|cdH r hy (fun hy=>?_) fun hy=>?_
 ·refine rg r<|at_ret<|atnilP (I) 4 1 r<|?_
  obtain rfl:=sj hy
  exact mR r r (.t r (.t r .nil))
 ·refine at_skip<|reg 7 r<|go 2 r<|ixH hy fun i2 v3 qi2 xv3 hy=>fixP (f:=I) sl29 qi2 xv3 r r r r<|fld tk3 r r r r<|bndH hy fun r4 qr4 hy=>clc (w_gf qr4) ca142 r r r<|go 2 r<|dn<|at_ret<|?_
  obtain rfl:=sj hy
  exact mR r r (.t r (.t r .nil))
end Go.Ar
namespace Go.Ar
open Go.RowKit
def p_eN (K:Nat) (a0:Int) (a1:Int) (a2:Int):Option Int :=
 (bif (a1 == a2) then some (-1) else ((p_dj K a0 a1).bind fun r1=>(bif (!r1) then some (-1) else ((p_dj K a0 a2).bind fun r2=>(bif (!r2) then some (-1) else some (w64 ((w64 (a0 * (w64 (a1+1))))+a2)))))))
theorem w_gC {K:Nat}{a0:Int}{a1:Int}{a2:Int}{y:Int} (hy:p_eN K a0 a1 a2=some y):Does PP GV 135 [] [(I a0),(I a1),(I a2)] [] [] (I y):=by
 unfold p_eN at hy
 refine does_of at135 r (le_ok r)<|?_
 rintro ⟨_,base,w0,F⟩ rfl
 refine rg r<|at_seq<|reg 15 r<|go 4 r<|casH 10 r hy (fun hy=>?_) fun hy=>?_
 ·refine go 11 r<|dn<|cdt r<|rg r<|at_ret<|?_
  obtain rfl:=sj hy
  exact eR r r
 ·refine go 2 r<|bndH hy fun r1 qr1 hy=>clc (w_fk qr1) ca63 r r r<|go 3 r<|casH 16 r hy (fun hy=>?_) fun hy=>?_
  ·refine go 5 r<|dn<|cdt r<|rg r<|at_ret<|?_
   obtain rfl:=sj hy
   exact eR r r
  ·refine go 2 r<|bndH hy fun r2 qr2 hy=>clc (w_fk qr2) ca63 r r r<|go 2 r<|dn<|cdH r hy (fun hy=>?_) fun hy=>?_
   ·refine rg r<|at_ret<|?_
    obtain rfl:=sj hy
    exact eR r r
   ·refine at_skip<|rg r<|at_ret<|?_
    obtain rfl:=sj hy
    exact eR r r
def p_eJ (K:Nat) (a0:Fo) (a1:Int) (a2:Int):Option Int :=
 ((p_dt K a0).bind fun r1=>(bif (!r1) then some 1 else ((p_dj K a0.n a1).bind fun r2=>(bif (!r2) then some 10 else ((p_dj K a0.n a2).bind fun r3=>(bif (!r3) then some 10 else some 0))))))
theorem w_g0 {K:Nat}{a0:Fo}{a1:Int}{a2:Int}{y:Int} (hy:p_eJ K a0 a1 a2=some y):Does PP GV 132 [] [(FoA a0),(I a1),(I a2)] [] [] (I y):=by
 unfold p_eJ at hy
 refine does_of at132 r (le_ok r)<|?_
 rintro ⟨_,base,w0,F⟩ rfl
 refine reg 2 r<|bx 1 r r r r<|go 1 r<|dn<|at_seq<|at_block<|reg 4 r<|ldw tk81 r r r r r r<|bndH hy fun r1 qr1 hy=>clc (w_fT qr1) ca64 r r r<|go 2 r<|dn<|cdH r hy (fun hy=>?_) fun hy=>?_
 ·refine rg r<|at_ret<|?_
  obtain rfl:=sj hy
  exact eR r r
 ·refine reg 13 r<|fa fo81_0 r r r<|ld tk3 r r r r r r<|go 1 r<|bndH hy fun r2 qr2 hy=>clc (w_fk qr2) ca63 r r r<|go 2 r<|casH 17 r hy (fun hy=>?_) fun hy=>?_
  ·refine go 7 r<|dn<|cdt r<|rg r<|at_ret<|?_
   obtain rfl:=sj hy
   exact eR r r
  ·refine fa fo81_0 r r r<|ld tk3 r r r r r r<|go 1 r<|bndH hy fun r3 qr3 hy=>clc (w_fk qr3) ca63 r r r<|go 3 r<|dn<|cdH r hy (fun hy=>?_) fun hy=>?_
   ·refine rg r<|at_ret<|?_
    obtain rfl:=sj hy
    exact eR r r
   ·refine at_skip<|at_bn<|rg r<|at_ret<|?_
    obtain rfl:=sj hy
    exact eR r r
def p_dn (K:Nat) (a0:(List Int)) (a1:Int):Option Bool :=
 ((p_I K a0 a1).bind fun r1=>some r1)
theorem w_gK {K:Nat}{a0:(List Int)}{a1:Int}{y:Bool} (hy:p_dn K a0 a1=some y):Does PP GV 95 [] [((SL 1 I) a0),((FP I) a1)] [] [] (B y):=by
 unfold p_dn at hy
 refine does_of at95 r (le_ok r)<|?_
 rintro ⟨_,base,w0,F⟩ rfl
 refine rg r<|reg 4 r<|go 1 r<|fld tk3 r r r r<|bndH hy fun r1 qr1 hy=>clc (w_db qr1) ca96 r r r<|go 1 r<|dn<|at_ret<|?_
 obtain rfl:=sj hy
 exact eR r r
def p_j (K:Nat) (a0:(List (List Int))) (a1:((List Int)→Option Bool)):Nat→Int→Option (Sum Unit Int)
 | 0,_=>none
 | n+1,v8_1=>(bif (decide (v8_1 < (a0.length:Int))) then (ixP a0 v8_1 fun v2=>((a1 v2).bind fun r3=>(bif r3 then some (.inr v8_1) else p_j K a0 a1 n (w64 (v8_1+1))))) else some (.inl ()))
def p_bX (K:Nat) (a0:(List (List Int))) (a1:((List Int)→Option Bool)):Option Int :=
 ((p_j K a0 a1 K 0:Option (Sum Unit Int)).bind fun | .inl _=>some (-1) | .inr r=>some r)
theorem w_fu {K:Nat}{a0:(List (List Int))}{a1:((List Int)→Option Bool)}{y:Int}{a1f:FuncId}{a1s a1c:List AV} (a1h:∀ {x0:(List Int)}{r:Bool},a1 x0=some r→Does PP GV a1f [] (a1s++[((SL 1 I) x0)]++a1c) [] [] (B r)) (a1k:callable PP a1f=true) (a1l:a1s.all flat=true∧a1c.all flat=true) (a1p:PuL a1s) (a1q:PuL a1c) (hy:p_bX K a0 a1=some y):Does PP GV 94 [] [((SL 1 (SL 1 I)) a0),.fn (.func a1f) a1s a1c] [] [] (I y):=by
 unfold p_bX at hy
 refine does_of at94 r (le_ok r)<|?_
 rintro ⟨_,base,w0,F⟩ rfl
 refine rg r<|bkH hy fun o1 hy k1 hk1 hc1=>meetD [] [] r r (fun (p:Unit)=>match p with | _=>([],[],k1 (.inl ())=some y)) ?_ ?_
 ·skip
  refine reg 3 r<|go 1 r<|lnf (f:=(SL 1 I)) slB30 r r r<|go 1 r<|dn<|at_block<|loopD [0,1,7] [] r r (fun (p:Nat × Int)=>match p with | (n2,v8_1)=>([(8,(I v8_1))],[],p_j K a0 a1 n2 v8_1=some o1)) (K,0) (lk r) .nil hy<|?_
  rintro ⟨n2,v8_1⟩ cl hy
  obtain _ | n2:=n2;· cases hy
  refine nf r r<|?_
  replace hy:_=some _:=hy
  rw [p_j] at hy
  refine rg r<|at_seq<|cdH r hy (fun hy=>?_) fun hy=>?_
  ·refine at_skip<|at_seq<|at_block<|rg r<|reg 6 r<|go 3 r<|ixH hy fun i1 v2 qi1 xv2 hy=>fixP (f:=(SL 1 I)) sl30 qi1 xv2 r r r r<|fld tk29 r r r r<|bndH hy fun r3 qr3 hy=>clv (a1h qr3) a1k r r r r a1l (puL3 a1p (.cons ((pu_l 1 pu_I) _) (.nil)) a1q) (.one (pu_B _)) r<|dn<|cdH r hy (fun hy=>?_) fun hy=>?_
   ·refine rg r<|at_ret<|?_
    obtain rfl:=sj hy
    subst hk1;obtain rfl:=sj hc1
    exact eR r r
   ·refine at_skip<|at_bn<|rg1 r<|againD (n2,(w64 (v8_1+1))) (lk r) .nil r r hy r
  ·exact at_exit<|at_te<|at_te<|at_inBlock<|metD () .nil .nil r r (sj2 hy hc1)
 ·rintro ⟨⟩ cl hy
  subst hk1
  refine nf r r<|rg r<|at_ret<|?_
  obtain rfl:=sj hy
  exact eR r r
def p_du (K:Nat) (a0:Fo) (a1:Int):Option Int :=
 ((p_bX K a0.rings (fun (x0:(List Int))=>p_dn K x0 a1)).bind fun r1=>some r1)
theorem w_fU {K:Nat}{a0:Fo}{a1:Int}{y:Int} (hy:p_du K a0 a1=some y):Does PP GV 65 [] [(FoA a0),(I a1)] [] [] (I y):=by
 unfold p_du at hy
 refine does_of at65 r (le_ok r)<|?_
 rintro ⟨_,base,w0,F⟩ rfl
 refine reg 3 r<|bx 1 r r r r<|bx 2 r r r r<|go 1 r<|dn<|frzB (e:=(I a1)) 3 2 r r (pu_I _)<|reg 5 r<|fa fo81_1 r r r<|ld tk30 r r r r r r<|rg_makeFunc (gd_of r) (evL_of r) (evL_of r) r (lt_ok r)<|bndH hy fun r1 qr1 hy=>clp (w_fu (a1h:=fun h=>w_gK h) (a1k:=ca95) (a1l:=⟨r,r⟩) (a1p:=.nil) (a1q:=.cons ((pu_fp pu_I) _) (.nil)) qr1) ca94 r r (.cons ((pu_l 1 (pu_l 1 pu_I)) _) (.cons (pu_fn (.nil) (.cons ((pu_fp pu_I) _) (.nil))) (.nil))) (.one (pu_I _)) r<|go 1 r<|dn<|at_ret<|?_
 obtain rfl:=sj hy
 exact eR r r
def p_d1 (K:Nat) (a0:(List Int)):Option (List Int) :=
 ((p_c3 K a0).bind fun r1=>(bif (!r1) then some [] else (bif ((a0.length:Int) == 0) then some [] else ((p_W K a0).bind fun r2=>((p_7 K a0 r2).bind fun r3=>((p_dG K a0 r3).bind fun r4=>some r4))))))
theorem w_g1 {K:Nat}{a0:(List Int)}{y:(List Int)} (hy:p_d1 K a0=some y):Does PP GV 144 [] [((SL 1 I) a0)] [] [] ((SL 1 I) y):=by
 unfold p_d1 at hy
 refine does_of at144 r (le_ok r)<|?_
 rintro ⟨_,base,w0,F⟩ rfl
 refine rg r<|at_seq<|reg 8 r<|go 1 r<|bndH hy fun r1 qr1 hy=>clc (w_fn qr1) ca39 r r r<|go 2 r<|casH 6 r hy (fun hy=>?_) fun hy=>?_
 ·refine go 4 r<|dn<|cdt r<|rg r<|at_ret<|atnilP (I) 2 1 r<|?_
  obtain rfl:=sj hy
  exact eR r r
 ·refine go 1 r<|lnf (f:=I) slB29 r r r<|go 2 r<|dn<|cdH r hy (fun hy=>?_) fun hy=>?_
  ·refine rg r<|at_ret<|atnilP (I) 2 1 r<|?_
   obtain rfl:=sj hy
   exact eR r r
  ·refine at_skip<|reg 7 r<|go 3 r<|bndH hy fun r2 qr2 hy=>clc (w_fl qr2) ca92 r r r<|bndH hy fun r3 qr3 hy=>clc (w_dE qr3) ca116 r r r<|bndH hy fun r4 qr4 hy=>clc (w_gf qr4) ca142 r r r<|go 1 r<|dn<|at_ret<|?_
   obtain rfl:=sj hy
   exact eR r r
def p_b4 (K:Nat) (a0:(List Int)) (a1:(List Int)):Option Int :=
 (ixP a0 0 fun v2=>(ixP a1 0 fun v4=>((p_bk K v2 v4).bind fun r5=>some r5)))
theorem w_gR {K:Nat}{a0:(List Int)}{a1:(List Int)}{y:Int} (hy:p_b4 K a0 a1=some y):Does PP GV 146 [] [((SL 1 I) a0),((SL 1 I) a1)] [] [] (I y):=by
 unfold p_b4 at hy
 refine does_of at146 r (le_ok r)<|?_
 rintro ⟨_,base,w0,F⟩ rfl
 refine rg r<|regd mixed 8 r<|go 1 r<|ixH hy fun i1 v2 qi1 xv2 hy=>fixP (f:=I) sl29 qi1 xv2 r r r r<|fld tk3 r r r r<|go 1 r<|ixH hy fun i3 v4 qi3 xv4 hy=>fixP (f:=I) sl29 qi3 xv4 r r r r<|fld tk3 r r r r<|bndH hy fun r5 qr5 hy=>clc (w_de qr5) ca59 r r r<|go 1 r<|dn ⟨by kernel_rfl,?_⟩
 refine at_ret<|?_
 obtain rfl:=sj hy
 exact eR r r
def p_4 (K:Nat) (a1:Int) (a2:Int):Nat→Int→Int→(List (List Int))→Int→Option (List (List Int))
 | 0,_,_,_,_=>none
 | n+1,v10_2,v11_2,l0_2,v1_2=>(bif (decide (v11_2≤(w64 ((w64 (a1+(w64 ((w64 (Int.tdiv (w64 (a2 - a1)) 4)) * 2))))+1)))) then ((p_bK K v1_2).bind fun r2=>(((bif (decide ((w64 (andV .u64 r2.1 (IntKind.u64.wrap (v10_2 - 1))))≥(w64 (a2 - a1)))) then some ((w64 ((w64 (andV .u64 r2.1 (IntKind.u64.wrap (v10_2 - 1)))) - (w64 (a2 - a1)))),r2.2) else some ((w64 (andV .u64 r2.1 (IntKind.u64.wrap (v10_2 - 1)))),r2.2)):Option (Int × Int)).bind fun (v12_1,v1_1)=>(bdP l0_2.length (w64 (a1+v12_1)) fun i3=>gtP l0_2 i3 fun v4=>(bdP l0_2.length v11_2 fun i5=>gtP l0_2 i5 fun v6=>(bdP l0_2.length v11_2 fun i7=>gtP l0_2 i7 fun v8=>(bdP l0_2.length (w64 (a1+v12_1)) fun i9=>gtP (l0_2.set i7 v4) i9 fun v10=>p_4 K a1 a2 n v10_2 (w64 (v11_2+1)) ((l0_2.set i7 v4).set i9 v6) v1_1)))))) else some l0_2)
def p_cf (K:Nat) (a0:(List (List Int))) (a1:Int) (a2:Int) (a3:((List Int)→(List Int)→Option Int)):Option (List (List Int)) :=
 (bif (decide ((w64 (a2 - a1))≥8)) then ((p_6 K (w64 (a2 - a1))).bind fun r1=>p_4 K a1 a2 K r1 (w64 ((w64 (a1+(w64 ((w64 (Int.tdiv (w64 (a2 - a1)) 4)) * 2)))) - 1)) a0 (IntKind.u64.wrap (w64 (a2 - a1)))) else some a0)
theorem w_eV {K:Nat}{a0:(List (List Int))}{a1:Int}{a2:Int}{a3:((List Int)→(List Int)→Option Int)}{y:(List (List Int))}{a3f:FuncId}{a3s a3c:List AV} (a3h:∀ {x0:(List Int)}{x1:(List Int)}{r:Int},a3 x0 x1=some r→Does PP GV a3f [] (a3s++[((SL 1 I) x0),((SL 1 I) x1)]++a3c) [] [] (I r)) (a3k:callable PP a3f=true) (a3l:a3s.all flat=true∧a3c.all flat=true) (a3p:PuL a3s) (a3q:PuL a3c) (hy:p_cf K a0 a1 a2 a3=some y):Does PP GV 150 [.buf 1 (a0.map (SL 1 I))] [.own 0 0 1 0 a0.length false,(I a1),(I a2),.fn (.func a3f) a3s a3c] [0] [.buf 1 (y.map (SL 1 I))] (.tup []):=by
 unfold p_cf at hy
 refine does_of at150 r (le_ok r)<|?_
 rintro ⟨_,base,w0,F⟩ rfl
 refine rg r<|rg r<|cdH r hy (fun hy=>?_) fun hy=>?_
 ·refine reg 4 r<|go 1 r<|rg_conv (gd_of r) (ev_of r) us3 ui144 (lt_ok r)<|rg_alloc (s:=1) (gd_of r) zc144 (elems_one (by rfl)) (lt_ok r)<|str tk144 r r r r r r r<|dn<|reg 3 r<|go 1 r<|bndH hy fun r1 qr1 hy=>clc (w_eR qr1) ca126 r r r<|go 1 r<|dn<|reg 7 r<|go 2 r<|dv r r r r (by decide)<|go 4 r<|dn<|at_block<|loopD [1,8] [] r r (fun (p:Nat × Int × Int × (List (List Int)) × Int × Nat)=>match p with | (n1,v10_2,v11_2,l0_2,v1_2,g1_1)=>([(0,.own 0 0 1 0 (l0_2).length false),(9,.ptr 1 g1_1 0 0),(10,((J .u64) v10_2)),(11,(I v11_2))],[(0,some (0,.buf 1 (l0_2.map (SL 1 I)))),(1,some (g1_1,.buf 1 [((J .u64) v1_2)]))],p_4 K a1 a2 n1 v10_2 v11_2 l0_2 v1_2=some y)) (K,r1,(w64 ((w64 (a1+(w64 ((w64 (Int.tdiv (w64 (a2 - a1)) 4)) * 2)))) - 1)),a0,(IntKind.u64.wrap (w64 (a2 - a1))),_) (lk r) (hk r) hy<|?_
  rintro ⟨n1,v10_2,v11_2,l0_2,v1_2,g1_1⟩ cl hy
  obtain _ | n1:=n1;· cases hy
  refine nf r r<|?_
  replace hy:_=some _:=hy
  rw [p_4] at hy
  refine at_seq<|reg 8 r<|go 3 r<|dv r r r r (by decide)<|go 4 r<|dn<|cdH r hy (fun hy=>?_) fun hy=>?_
  ·refine at_skip<|at_seq<|at_block<|reg 6 r<|bndH hy fun r2 qr2 hy=>clo1 (g1:=(J .u64)) (l:=[v1_2]) (l':=[r2.2]) (s:=1) (w_eX qr2) ca127 r (.one (pu_J _ _)) r r (pu_J _) ?_ r ?_
   ·exact .cons _ _ _ _ (rnPtr (List.Mem.head _)) (.nil)
   refine go 2 r<|bn2 r r r r r<|rg_conv (gd_of r) (ev_of r) us76 ui3 (lt_ok r)<|go 1 r<|dn<|bkH hy fun o2 hy k2 hk2 hc2=>meetD [0,1,8,10,11] [0] r r (fun (p:Int × Int × Nat)=>match p with | (v12_1,v1_1,g1_2)=>([(9,.ptr 1 g1_2 0 0),(12,(I v12_1))],[(1,some (g1_2,.buf 1 [((J .u64) v1_1)]))],k2 (v12_1,v1_1)=some y)) ?_ ?_
   ·skip
    refine rg r<|cdH r hy (fun hy=>?_) fun hy=>?_
    ·exact rg1 r<|metD ((w64 ((w64 (andV .u64 r2.1 (IntKind.u64.wrap (v10_2 - 1)))) - (w64 (a2 - a1)))),r2.2,_) (lk r) (hk r) r r (sj2 hy hc2)
    ·exact at_skip<|metD ((w64 (andV .u64 r2.1 (IntKind.u64.wrap (v10_2 - 1)))),r2.2,_) (lk r) (hk r) r r (sj2 hy hc2)
   ·rintro ⟨v12_1,v1_1,g1_2⟩ cl hy
    subst hk2
    refine nf r r<|regd1 mixed 20 r<|go 10 r<|bdH hy fun i3 qi3 bi3 hy=>gtH hy fun v4 xv4 hy=>ixP' sl30 qi3 bi3 r r r r<|ldP (f:=(SL 1 I)) tk29 xv4 r r r r r<|go 2 r<|bdH hy fun i5 qi5 bi5 hy=>gtH hy fun v6 xv6 hy=>ixP' sl30 qi5 bi5 r r r r<|ldP (f:=(SL 1 I)) tk29 xv6 r r r r r<|bdH hy fun i7 qi7 bi7 hy=>gtH hy fun v8 xv8 hy=>ixP' sl30 qi7 bi7 r r r r<|stP (f:=(SL 1 I)) (v4) tk29 xv8 r r r r r r<|bdH hy fun i9 qi9 bi9 hy=>gtH hy fun v10 xv10 hy=>ixP' sl30 qi9 bi9 r r r r<|stP (f:=(SL 1 I)) (v6) tk29 xv10 r r r r r r<|dn ⟨by kernel_rfl,?_⟩
    refine at_bn<|rg1 r<|againD (n1,v10_2,(w64 (v11_2+1)),((l0_2.set i7 v4).set i9 v6),v1_1,_) (.k r (by simp) (.j r (.j r (.j r .nil)))) (hk r) r r hy r
  ·refine at_exit<|at_te<|at_te<|at_inBlock<|?_
   obtain rfl:=sj hy
   exact outO0 (g1:=(SL 1 I)) r (.inr r) r (pu_l 1 pu_I)
 ·refine at_skip<|?_
  obtain rfl:=sj hy
  exact outO0 (g1:=(SL 1 I)) r (.inr r) r (pu_l 1 pu_I)
def p_bz (K:Nat) (a0:(List (List Int))) (a1:Int) (a2:Int) (a3:Int) (a4:((List Int)→(List Int)→Option Int)):Option (Int × Int × Int) :=
 (ixP a0 a2 fun v2=>(ixP a0 a1 fun v4=>((a4 v2 v4).bind fun r5=>(bif (decide (r5 < 0)) then some (a2,a1,(w64 (a3+1))) else some (a1,a2,a3)))))
theorem w_c5 {K:Nat}{a0:(List (List Int))}{a1:Int}{a2:Int}{a3:Int}{a4:((List Int)→(List Int)→Option Int)}{y:(Int × Int × Int)}{a4f:FuncId}{a4s a4c:List AV} (a4h:∀ {x0:(List Int)}{x1:(List Int)}{r:Int},a4 x0 x1=some r→Does PP GV a4f [] (a4s++[((SL 1 I) x0),((SL 1 I) x1)]++a4c) [] [] (I r)) (a4k:callable PP a4f=true) (a4l:a4s.all flat=true∧a4c.all flat=true) (a4p:PuL a4s) (a4q:PuL a4c) (hy:p_bz K a0 a1 a2 a3 a4=some y):Does PP GV 159 [.buf 1 [(I a3)]] [((SL 1 (SL 1 I)) a0),(I a1),(I a2),.ptr 0 0 0 0,.fn (.func a4f) a4s a4c] [0] [.buf 1 [(I y.2.2)]] (.tup [(I y.1),(I y.2.1)]):=by
 unfold p_bz at hy
 refine does_of at159 r (le_ok r)<|?_
 rintro ⟨_,base,w0,F⟩ rfl
 refine rg r<|at_seq<|regd mixed 11 r<|go 3 r<|ixH hy fun i1 v2 qi1 xv2 hy=>fixP (f:=(SL 1 I)) sl30 qi1 xv2 r r r r<|fld tk29 r r r r<|go 2 r<|ixH hy fun i3 v4 qi3 xv4 hy=>fixP (f:=(SL 1 I)) sl30 qi3 xv4 r r r r<|fld tk29 r r r r<|bndH hy fun r5 qr5 hy=>clv (a4h qr5) a4k r r r r a4l (puL3 a4p (.cons ((pu_l 1 pu_I) _) (.cons ((pu_l 1 pu_I) _) (.nil))) a4q) (.one (pu_I _)) r<|go 1 r<|dn ⟨by kernel_rfl,?_⟩
 refine cdH r hy (fun hy=>?_) fun hy=>?_
 ·refine reg 6 r<|go 2 r<|ld tk3 r r r r r r<|go 2 r<|str tk3 r r r r r r r<|dn<|rg r<|at_ret<|?_
  obtain rfl:=sj hy
  exact outOs (g1:=I) (l:=[(w64 (a3+1))]) (rs:=[10,11]) (res2 r) (by simp) (.inl r) (looks_of r) r r pu_I (.cons (pu_I _) (.cons (pu_I _) (.nil)))
 ·refine at_skip<|rg r<|at_ret<|?_
  obtain rfl:=sj hy
  exact outOs (g1:=I) (l:=[a3]) (rs:=[10,11]) (res2 r) (by simp) (.inl r) (looks_of r) r r pu_I (.cons (pu_I _) (.cons (pu_I _) (.nil)))
def p_ci (K:Nat) (a0:(List (List Int))) (a1:Int) (a2:Int) (a3:Int) (a4:Int) (a5:((List Int)→(List Int)→Option Int)):Option (Int × Int) :=
 ((p_bz K a0 a1 a2 a4 a5).bind fun r1=>((p_bz K a0 r1.2.1 a3 r1.2.2 a5).bind fun r2=>((p_bz K a0 r1.1 r2.1 r2.2.2 a5).bind fun r3=>some (r3.2.1,r3.2.2))))
theorem w_ed {K:Nat}{a0:(List (List Int))}{a1:Int}{a2:Int}{a3:Int}{a4:Int}{a5:((List Int)→(List Int)→Option Int)}{y:(Int × Int)}{a5f:FuncId}{a5s a5c:List AV} (a5h:∀ {x0:(List Int)}{x1:(List Int)}{r:Int},a5 x0 x1=some r→Does PP GV a5f [] (a5s++[((SL 1 I) x0),((SL 1 I) x1)]++a5c) [] [] (I r)) (a5k:callable PP a5f=true) (a5l:a5s.all flat=true∧a5c.all flat=true) (a5p:PuL a5s) (a5q:PuL a5c) (hy:p_ci K a0 a1 a2 a3 a4 a5=some y):Does PP GV 158 [.buf 1 [(I a4)]] [((SL 1 (SL 1 I)) a0),(I a1),(I a2),(I a3),.ptr 0 0 0 0,.fn (.func a5f) a5s a5c] [0] [.buf 1 [(I y.2)]] (I y.1):=by
 unfold p_ci at hy
 refine does_of at158 r (le_ok r)<|?_
 rintro ⟨_,base,w0,F⟩ rfl
 refine rg r<|reg 11 r<|go 5 r<|bndH hy fun r1 qr1 hy=>clo1 (g1:=I) (l:=[a4]) (l':=[r1.2.2]) (s:=0) (w_c5 (a4h:=a5h) (a4k:=a5k) (a4l:=a5l) (a4p:=a5p) (a4q:=a5q) qr1) ca159 r (.tup (.cons (pu_I _) (.cons (pu_I _) (.nil)))) r r pu_I ?_ r ?_
 ·exact .cons _ _ _ _ (.pu _ ((pu_l 1 (pu_l 1 pu_I)) _)) (.cons _ _ _ _ (.pu _ (pu_I _)) (.cons _ _ _ _ (.pu _ (pu_I _)) (.cons _ _ _ _ (rnPtr (List.Mem.head _)) (.cons _ _ _ _ (.pu _ (pu_fn a5p a5q)) (.nil)))))
 refine go 5 r<|dn<|reg 11 r<|go 5 r<|bndH hy fun r2 qr2 hy=>clo1 (g1:=I) (l:=[r1.2.2]) (l':=[r2.2.2]) (s:=0) (w_c5 (a4h:=a5h) (a4k:=a5k) (a4l:=a5l) (a4p:=a5p) (a4q:=a5q) qr2) ca159 r (.tup (.cons (pu_I _) (.cons (pu_I _) (.nil)))) r r pu_I ?_ r ?_
 ·exact .cons _ _ _ _ (.pu _ ((pu_l 1 (pu_l 1 pu_I)) _)) (.cons _ _ _ _ (.pu _ (pu_I _)) (.cons _ _ _ _ (.pu _ (pu_I _)) (.cons _ _ _ _ (rnPtr (List.Mem.head _)) (.cons _ _ _ _ (.pu _ (pu_fn a5p a5q)) (.nil)))))
 refine go 5 r<|dn<|reg 11 r<|go 5 r<|bndH hy fun r3 qr3 hy=>clo1 (g1:=I) (l:=[r2.2.2]) (l':=[r3.2.2]) (s:=0) (w_c5 (a4h:=a5h) (a4k:=a5k) (a4l:=a5l) (a4p:=a5p) (a4q:=a5q) qr3) ca159 r (.tup (.cons (pu_I _) (.cons (pu_I _) (.nil)))) r r pu_I ?_ r ?_
 ·exact .cons _ _ _ _ (.pu _ ((pu_l 1 (pu_l 1 pu_I)) _)) (.cons _ _ _ _ (.pu _ (pu_I _)) (.cons _ _ _ _ (.pu _ (pu_I _)) (.cons _ _ _ _ (rnPtr (List.Mem.head _)) (.cons _ _ _ _ (.pu _ (pu_fn a5p a5q)) (.nil)))))
 refine go 5 r<|dn<|rg r<|at_ret<|?_
 obtain rfl:=sj hy
 exact outO1 (g1:=I) (l:=[r3.2.2]) r (.inl r) r (pu_I _) r pu_I
def p_F (K:Nat) (a0:(List (List Int))) (a1:Int) (a2:Int) (a3:((List Int)→(List Int)→Option Int)):Option (Int × Int) :=
 ((p_ci K a0 (w64 (a1 - 1)) a1 (w64 (a1+1)) a2 a3).bind fun r1=>some (r1.1,r1.2))
theorem w_b6 {K:Nat}{a0:(List (List Int))}{a1:Int}{a2:Int}{a3:((List Int)→(List Int)→Option Int)}{y:(Int × Int)}{a3f:FuncId}{a3s a3c:List AV} (a3h:∀ {x0:(List Int)}{x1:(List Int)}{r:Int},a3 x0 x1=some r→Does PP GV a3f [] (a3s++[((SL 1 I) x0),((SL 1 I) x1)]++a3c) [] [] (I r)) (a3k:callable PP a3f=true) (a3l:a3s.all flat=true∧a3c.all flat=true) (a3p:PuL a3s) (a3q:PuL a3c) (hy:p_F K a0 a1 a2 a3=some y):Does PP GV 157 [.buf 1 [(I a2)]] [((SL 1 (SL 1 I)) a0),(I a1),.ptr 0 0 0 0,.fn (.func a3f) a3s a3c] [0] [.buf 1 [(I y.2)]] (I y.1):=by
 unfold p_F at hy
 refine does_of at157 r (le_ok r)<|?_
 rintro ⟨_,base,w0,F⟩ rfl
 refine rg r<|reg 10 r<|go 8 r<|bndH hy fun r1 qr1 hy=>clo1 (g1:=I) (l:=[a2]) (l':=[r1.2]) (s:=0) (w_ed (a5h:=a3h) (a5k:=a3k) (a5l:=a3l) (a5p:=a3p) (a5q:=a3q) qr1) ca158 r (.one (pu_I _)) r r pu_I ?_ r ?_
 ·exact .cons _ _ _ _ (.pu _ ((pu_l 1 (pu_l 1 pu_I)) _)) (.cons _ _ _ _ (.pu _ (pu_I _)) (.cons _ _ _ _ (.pu _ (pu_I _)) (.cons _ _ _ _ (.pu _ (pu_I _)) (.cons _ _ _ _ (rnPtr (List.Mem.head _)) (.cons _ _ _ _ (.pu _ (pu_fn a3p a3q)) (.nil))))))
 refine go 1 r<|dn<|at_ret<|?_
 obtain rfl:=sj hy
 exact outO1 (g1:=I) (l:=[r1.2]) r (.inl r) r (pu_I _) r pu_I
def p_cs (K:Nat) (a0:(List (List Int))) (a1:Int) (a2:Int) (a3:((List Int)→(List Int)→Option Int)):Option (Int × Int) :=
 (((bif (decide ((w64 (a2 - a1))≥8)) then (((bif (decide ((w64 (a2 - a1))≥50)) then ((p_F K a0 (w64 (a1+(w64 ((w64 (Int.tdiv (w64 (a2 - a1)) 4)) * 1)))) 0 a3).bind fun r1=>((p_F K a0 (w64 (a1+(w64 ((w64 (Int.tdiv (w64 (a2 - a1)) 4)) * 2)))) r1.2 a3).bind fun r2=>((p_F K a0 (w64 (a1+(w64 ((w64 (Int.tdiv (w64 (a2 - a1)) 4)) * 3)))) r2.2 a3).bind fun r3=>some (r1.1,r2.1,r3.1,r3.2)))) else some ((w64 (a1+(w64 ((w64 (Int.tdiv (w64 (a2 - a1)) 4)) * 1)))),(w64 (a1+(w64 ((w64 (Int.tdiv (w64 (a2 - a1)) 4)) * 2)))),(w64 (a1+(w64 ((w64 (Int.tdiv (w64 (a2 - a1)) 4)) * 3)))),0)):Option (Int × Int × Int × Int)).bind fun (v12_1,v13_1,v14_1,v1_1)=>((p_ci K a0 v12_1 v13_1 v14_1 v1_1 a3).bind fun r4=>some (r4.1,r4.2))) else some ((w64 (a1+(w64 ((w64 (Int.tdiv (w64 (a2 - a1)) 4)) * 2)))),0)):Option (Int × Int)).bind fun (v13_2,v1_2)=>(bif (v1_2 == 0) then some (v13_2,1) else (bif (v1_2 == 12) then some (v13_2,2) else some (v13_2,0))))
theorem w_fi {K:Nat}{a0:(List (List Int))}{a1:Int}{a2:Int}{a3:((List Int)→(List Int)→Option Int)}{y:(Int × Int)}{a3f:FuncId}{a3s a3c:List AV} (a3h:∀ {x0:(List Int)}{x1:(List Int)}{r:Int},a3 x0 x1=some r→Does PP GV a3f [] (a3s++[((SL 1 I) x0),((SL 1 I) x1)]++a3c) [] [] (I r)) (a3k:callable PP a3f=true) (a3l:a3s.all flat=true∧a3c.all flat=true) (a3p:PuL a3s) (a3q:PuL a3c) (hy:p_cs K a0 a1 a2 a3=some y):Does PP GV 151 [] [((SL 1 (SL 1 I)) a0),(I a1),(I a2),.fn (.func a3f) a3s a3c] [] [] (.tup [(I y.1),(I y.2)]):=by
 unfold p_cs at hy
 refine does_of at151 r (le_ok r)<|?_
 rintro ⟨_,base,w0,F⟩ rfl
 refine rg r<|rg r<|reg 1 r<|rg_alloc (s:=1) (gd_of r) zc3 (elems_one (by rfl)) (lt_ok r)<|dn<|reg 6 r<|go 2 r<|dv r r r r (by decide)<|go 3 r<|dn<|reg 6 r<|go 2 r<|dv r r r r (by decide)<|go 3 r<|dn<|reg 6 r<|go 2 r<|dv r r r r (by decide)<|go 3 r<|dn<|bkH hy fun o1 hy k1 hk1 hc1=>meetD [] [] r r (fun (p:Int × Int × Nat)=>match p with | (v13_2,v1_2,g1_1)=>([(11,.ptr 1 g1_1 0 0),(13,(I v13_2))],[(1,some (g1_1,.buf 1 [(I v1_2)]))],k1 (v13_2,v1_2)=some y)) ?_ ?_
 ·skip
  refine rg r<|cdH r hy (fun hy=>?_) fun hy=>?_
  ·refine bkH hy fun o2 hy k2 hk2 hc2=>meetD [0,3] [] r r (fun (p:Int × Int × Int × Int × Nat)=>match p with | (v12_1,v13_1,v14_1,v1_1,g1_2)=>([(11,.ptr 1 g1_2 0 0),(12,(I v12_1)),(13,(I v13_1)),(14,(I v14_1))],[(1,some (g1_2,.buf 1 [(I v1_1)]))],k2 (v12_1,v13_1,v14_1,v1_1)=some o1)) ?_ ?_
   ·skip
    refine rg r<|cdH r hy (fun hy=>?_) fun hy=>?_
    ·refine reg 5 r<|go 3 r<|bndH hy fun r1 qr1 hy=>clo1 (g1:=I) (l:=[0]) (l':=[r1.2]) (s:=1) (w_b6 (a3h:=a3h) (a3k:=a3k) (a3l:=a3l) (a3p:=a3p) (a3q:=a3q) qr1) ca157 r (.one (pu_I _)) r r pu_I ?_ r ?_
     ·exact .cons _ _ _ _ (.pu _ ((pu_l 1 (pu_l 1 pu_I)) _)) (.cons _ _ _ _ (.pu _ (pu_I _)) (.cons _ _ _ _ (rnPtr (List.Mem.head _)) (.cons _ _ _ _ (.pu _ (pu_fn a3p a3q)) (.nil))))
     refine go 1 r<|dn<|reg 5 r<|go 3 r<|bndH hy fun r2 qr2 hy=>clo1 (g1:=I) (l:=[r1.2]) (l':=[r2.2]) (s:=1) (w_b6 (a3h:=a3h) (a3k:=a3k) (a3l:=a3l) (a3p:=a3p) (a3q:=a3q) qr2) ca157 r (.one (pu_I _)) r r pu_I ?_ r ?_
     ·exact .cons _ _ _ _ (.pu _ ((pu_l 1 (pu_l 1 pu_I)) _)) (.cons _ _ _ _ (.pu _ (pu_I _)) (.cons _ _ _ _ (rnPtr (List.Mem.head _)) (.cons _ _ _ _ (.pu _ (pu_fn a3p a3q)) (.nil))))
     refine go 1 r<|dn<|reg1 5 r<|go 3 r<|bndH hy fun r3 qr3 hy=>clo1 (g1:=I) (l:=[r2.2]) (l':=[r3.2]) (s:=1) (w_b6 (a3h:=a3h) (a3k:=a3k) (a3l:=a3l) (a3p:=a3p) (a3q:=a3q) qr3) ca157 r (.one (pu_I _)) r r pu_I ?_ r ?_
     ·exact .cons _ _ _ _ (.pu _ ((pu_l 1 (pu_l 1 pu_I)) _)) (.cons _ _ _ _ (.pu _ (pu_I _)) (.cons _ _ _ _ (rnPtr (List.Mem.head _)) (.cons _ _ _ _ (.pu _ (pu_fn a3p a3q)) (.nil))))
     exact go 1 r<|dn<|metD (r1.1,r2.1,r3.1,r3.2,_) (lk r) (hk r) r r (sj2 hy hc2)
    ·exact at_skip<|metD ((w64 (a1+(w64 ((w64 (Int.tdiv (w64 (a2 - a1)) 4)) * 1)))),(w64 (a1+(w64 ((w64 (Int.tdiv (w64 (a2 - a1)) 4)) * 2)))),(w64 (a1+(w64 ((w64 (Int.tdiv (w64 (a2 - a1)) 4)) * 3)))),0,_) (lk r) (hk r) r r (sj2 hy hc2)
   ·rintro ⟨v12_1,v13_1,v14_1,v1_1,g1_2⟩ cl hy
    subst hk2
    refine nf r r<|reg1 7 r<|go 5 r<|bndH hy fun r4 qr4 hy=>clo1 (g1:=I) (l:=[v1_1]) (l':=[r4.2]) (s:=1) (w_ed (a5h:=a3h) (a5k:=a3k) (a5l:=a3l) (a5p:=a3p) (a5q:=a3q) qr4) ca158 r (.one (pu_I _)) r r pu_I ?_ r ?_
    ·exact .cons _ _ _ _ (.pu _ ((pu_l 1 (pu_l 1 pu_I)) _)) (.cons _ _ _ _ (.pu _ (pu_I _)) (.cons _ _ _ _ (.pu _ (pu_I _)) (.cons _ _ _ _ (.pu _ (pu_I _)) (.cons _ _ _ _ (rnPtr (List.Mem.head _)) (.cons _ _ _ _ (.pu _ (pu_fn a3p a3q)) (.nil))))))
    exact go 1 r<|dn<|metD (r4.1,r4.2,_) (lk r) (hk r) r r (sj2 hy hc1)
  ·exact at_skip<|metD ((w64 (a1+(w64 ((w64 (Int.tdiv (w64 (a2 - a1)) 4)) * 2)))),0,_) (lk r) (hk r) r r (sj2 hy hc1)
 ·rintro ⟨v13_2,v1_2,g1_1⟩ cl hy
  subst hk1
  refine nf r r<|reg 1 r<|ld tk3 r r r r r r<|dn<|at_block<|rg r<|cdH r hy (fun hy=>?_) fun hy=>?_
  ·refine rg r<|at_ret<|?_
   obtain rfl:=sj hy
   exact mR r r (.t r (.t r .nil))
  ·refine rg r<|cdH r hy (fun hy=>?_) fun hy=>?_
   ·refine rg r<|at_ret<|?_
    obtain rfl:=sj hy
    exact mR r r (.t r (.t r .nil))
   ·refine rg r<|at_ret<|?_
    obtain rfl:=sj hy
    exact mR r r (.t r (.t r .nil))
def p_bA (K:Nat) (a2:Int) (a3:Int) (a4:((List Int)→(List Int)→Option Int)):Nat→Int→(List (List Int))→Option (List (List Int))
 | 0,_,_=>none
 | n+1,v10_2,l0_2=>(bif (decide ((w64 ((w64 (2 * v10_2))+1))≥a2)) then some l0_2 else (((bif (decide ((w64 ((w64 ((w64 (2 * v10_2))+1))+1)) < a2)) then (bdP l0_2.length (w64 (a3+(w64 ((w64 (2 * v10_2))+1)))) fun i1=>gtP l0_2 i1 fun v2=>(bdP l0_2.length (w64 ((w64 (a3+(w64 ((w64 (2 * v10_2))+1))))+1)) fun i3=>gtP l0_2 i3 fun v4=>((a4 v2 v4).bind fun r5=>(bif (decide (r5 < 0)) then some (w64 ((w64 ((w64 (2 * v10_2))+1))+1)) else some (w64 ((w64 (2 * v10_2))+1)))))) else some (w64 ((w64 (2 * v10_2))+1))):Option Int).bind fun v11_1=>(bdP l0_2.length (w64 (a3+v10_2)) fun i6=>gtP l0_2 i6 fun v7=>(bdP l0_2.length (w64 (a3+v11_1)) fun i8=>gtP l0_2 i8 fun v9=>((a4 v7 v9).bind fun r10=>(bif (!(decide (r10 < 0))) then some l0_2 else (bdP l0_2.length (w64 (a3+v11_1)) fun i11=>gtP l0_2 i11 fun v12=>(bdP l0_2.length (w64 (a3+v10_2)) fun i13=>gtP l0_2 i13 fun v14=>(bdP l0_2.length (w64 (a3+v10_2)) fun i15=>gtP l0_2 i15 fun v16=>(bdP l0_2.length (w64 (a3+v11_1)) fun i17=>gtP (l0_2.set i15 v12) i17 fun v18=>p_bA K a2 a3 a4 n v11_1 ((l0_2.set i15 v12).set i17 v14)))))))))))
def p_bY (K:Nat) (a0:(List (List Int))) (a1:Int) (a2:Int) (a3:Int) (a4:((List Int)→(List Int)→Option Int)):Option (List (List Int)) :=
 p_bA K a2 a3 a4 K a1 a0
theorem w_dW {K:Nat}{a0:(List (List Int))}{a1:Int}{a2:Int}{a3:Int}{a4:((List Int)→(List Int)→Option Int)}{y:(List (List Int))}{a4f:FuncId}{a4s a4c:List AV} (a4h:∀ {x0:(List Int)}{x1:(List Int)}{r:Int},a4 x0 x1=some r→Does PP GV a4f [] (a4s++[((SL 1 I) x0),((SL 1 I) x1)]++a4c) [] [] (I r)) (a4k:callable PP a4f=true) (a4l:a4s.all flat=true∧a4c.all flat=true) (a4p:PuL a4s) (a4q:PuL a4c) (hy:p_bY K a0 a1 a2 a3 a4=some y):Does PP GV 156 [.buf 1 (a0.map (SL 1 I))] [.own 0 0 1 0 a0.length false,(I a1),(I a2),(I a3),.fn (.func a4f) a4s a4c] [0] [.buf 1 (y.map (SL 1 I))] (.tup []):=by
 unfold p_bY at hy
 refine does_of at156 r (le_ok r)<|?_
 rintro ⟨_,base,w0,F⟩ rfl
 refine rg r<|at_block<|loopD [2,3,4] [] r r (fun (p:Nat × Int × (List (List Int)))=>match p with | (n1,v10_2,l0_2)=>([(0,.own 0 0 1 0 (l0_2).length false),(10,(I v10_2))],[(0,some (0,.buf 1 (l0_2.map (SL 1 I))))],p_bA K a2 a3 a4 n1 v10_2 l0_2=some y)) (K,a1,a0) (lk r) (hk r) hy<|?_
 rintro ⟨n1,v10_2,l0_2⟩ cl hy
 obtain _ | n1:=n1;· cases hy
 refine nf r r<|?_
 replace hy:_=some _:=hy
 rw [p_bA] at hy
 refine at_block<|rg r<|at_seq<|rg r<|cdH r hy (fun hy=>?_) fun hy=>?_
 ·refine at_exit<|at_te<|at_outBlock (by decide)<|at_te<|at_inBlock<|?_
  obtain rfl:=sj hy
  exact outO0 (g1:=(SL 1 I)) r (.inr r) r (pu_l 1 pu_I)
 ·refine at_skip<|bkH hy fun o2 hy k2 hk2 hc2=>meetD [0,2,3,4,10] [0] r r (fun (p:Int)=>match p with | v11_1=>([(11,(I v11_1))],[],k2 v11_1=some y)) ?_ ?_
  ·skip
   refine regd mixed 22 r<|go 5 r<|casH 23 r hy (fun hy=>?_) fun hy=>?_
   ·refine go 5 r<|bdH hy fun i1 qi1 bi1 hy=>gtH hy fun v2 xv2 hy=>ixP' sl30 qi1 bi1 r r r r<|ldP (f:=(SL 1 I)) tk29 xv2 r r r r r<|go 5 r<|bdH hy fun i3 qi3 bi3 hy=>gtH hy fun v4 xv4 hy=>ixP' sl30 qi3 bi3 r r r r<|ldP (f:=(SL 1 I)) tk29 xv4 r r r r r<|bndH hy fun r5 qr5 hy=>clv (a4h qr5) a4k r r r r a4l (puL3 a4p (.cons ((pu_l 1 pu_I) _) (.cons ((pu_l 1 pu_I) _) (.nil))) a4q) (.one (pu_I _)) r<|go 2 r<|dn ⟨by kernel_rfl,?_⟩
    refine cdH r hy (fun hy=>?_) fun hy=>?_
    ·exact rg1 r<|metD (w64 ((w64 ((w64 (2 * v10_2))+1))+1)) (lk r) .nil r r (sj2 hy hc2)
    ·exact at_skip<|metD (w64 ((w64 (2 * v10_2))+1)) (lk r) .nil r r (sj2 hy hc2)
   ·refine go 17 r<|dn ⟨by kernel_rfl,?_⟩
    exact cdf r<|at_skip<|metD (w64 ((w64 (2 * v10_2))+1)) (lk r) .nil r r (sj2 hy hc2)
  ·rintro v11_1 cl hy
   subst hk2
   refine nf r r<|at_seq<|regd mixed 16 r<|go 5 r<|bdH hy fun i6 qi6 bi6 hy=>gtH hy fun v7 xv7 hy=>ixP' sl30 qi6 bi6 r r r r<|ldP (f:=(SL 1 I)) tk29 xv7 r r r r r<|go 4 r<|bdH hy fun i8 qi8 bi8 hy=>gtH hy fun v9 xv9 hy=>ixP' sl30 qi8 bi8 r r r r<|ldP (f:=(SL 1 I)) tk29 xv9 r r r r r<|bndH hy fun r10 qr10 hy=>clv (a4h qr10) a4k r r r r a4l (puL3 a4p (.cons ((pu_l 1 pu_I) _) (.cons ((pu_l 1 pu_I) _) (.nil))) a4q) (.one (pu_I _)) r<|go 2 r<|dn ⟨by kernel_rfl,?_⟩
   refine cdH r hy (fun hy=>?_) fun hy=>?_
   ·refine at_ret<|?_
    obtain rfl:=sj hy
    exact outO0 (g1:=(SL 1 I)) r (.inl r) r (pu_l 1 pu_I)
   ·refine at_skip<|regd mixed 24 r<|go 12 r<|bdH hy fun i11 qi11 bi11 hy=>gtH hy fun v12 xv12 hy=>ixP' sl30 qi11 bi11 r r r r<|ldP (f:=(SL 1 I)) tk29 xv12 r r r r r<|go 4 r<|bdH hy fun i13 qi13 bi13 hy=>gtH hy fun v14 xv14 hy=>ixP' sl30 qi13 bi13 r r r r<|ldP (f:=(SL 1 I)) tk29 xv14 r r r r r<|bdH hy fun i15 qi15 bi15 hy=>gtH hy fun v16 xv16 hy=>ixP' sl30 qi15 bi15 r r r r<|stP (f:=(SL 1 I)) (v12) tk29 xv16 r r r r r r<|bdH hy fun i17 qi17 bi17 hy=>gtH hy fun v18 xv18 hy=>ixP' sl30 qi17 bi17 r r r r<|stP (f:=(SL 1 I)) (v14) tk29 xv18 r r r r r r<|dn ⟨by kernel_rfl,?_⟩
    refine rg1 r<|at_bn<|againD (n1,v11_1,((l0_2.set i15 v12).set i17 v14)) (.k r (by simp) (.j r .nil)) (hk r) r r hy r
def p_bB (K:Nat) (a2:Int) (a1:Int) (a3:((List Int)→(List Int)→Option Int)):Nat→Int→(List (List Int))→Option (List (List Int))
 | 0,_,_=>none
 | n+1,v11_1,l0_1=>(bif (decide (v11_1≥0)) then ((p_bY K l0_1 v11_1 (w64 (a2 - a1)) a1 a3).bind fun r1=>lenP l0_1 r1 (p_bB K a2 a1 a3 n (w64 (v11_1 - 1)) r1)) else some l0_1)
def p_bC (K:Nat) (a1:Int) (a3:((List Int)→(List Int)→Option Int)):Nat→Int→(List (List Int))→Option (List (List Int))
 | 0,_,_=>none
 | n+1,v12_3,l0_3=>(bif (decide (v12_3≥0)) then (bdP l0_3.length (w64 (a1+v12_3)) fun i2=>gtP l0_3 i2 fun v3=>(bdP l0_3.length a1 fun i4=>gtP l0_3 i4 fun v5=>(bdP l0_3.length a1 fun i6=>gtP l0_3 i6 fun v7=>(bdP l0_3.length (w64 (a1+v12_3)) fun i8=>gtP (l0_3.set i6 v3) i8 fun v9=>((p_bY K ((l0_3.set i6 v3).set i8 v5) 0 v12_3 a1 a3).bind fun r10=>lenP ((l0_3.set i6 v3).set i8 v5) r10 (p_bC K a1 a3 n (w64 (v12_3 - 1)) r10)))))) else some l0_3)
def p_cE (K:Nat) (a0:(List (List Int))) (a1:Int) (a2:Int) (a3:((List Int)→(List Int)→Option Int)):Option (List (List Int)) :=
 ((p_bB K a2 a1 a3 K (w64 (Int.tdiv (w64 ((w64 (a2 - a1)) - 1)) 2)) a0:Option (List (List Int))).bind fun l0_2=>p_bC K a1 a3 K (w64 ((w64 (a2 - a1)) - 1)) l0_2)
theorem w_fv {K:Nat}{a0:(List (List Int))}{a1:Int}{a2:Int}{a3:((List Int)→(List Int)→Option Int)}{y:(List (List Int))}{a3f:FuncId}{a3s a3c:List AV} (a3h:∀ {x0:(List Int)}{x1:(List Int)}{r:Int},a3 x0 x1=some r→Does PP GV a3f [] (a3s++[((SL 1 I) x0),((SL 1 I) x1)]++a3c) [] [] (I r)) (a3k:callable PP a3f=true) (a3l:a3s.all flat=true∧a3c.all flat=true) (a3p:PuL a3s) (a3q:PuL a3c) (hy:p_cE K a0 a1 a2 a3=some y):Does PP GV 149 [.buf 1 (a0.map (SL 1 I))] [.own 0 0 1 0 a0.length false,(I a1),(I a2),.fn (.func a3f) a3s a3c] [0] [.buf 1 (y.map (SL 1 I))] (.tup []):=by
 unfold p_cE at hy
 refine does_of at149 r (le_ok r)<|?_
 rintro ⟨_,base,w0,F⟩ rfl
 refine rg r<|rg r<|rg r<|bkH hy fun o1 hy k1 hk1 hc1=>meetD [3,8,9,10] [] r r (fun (p:(List (List Int)))=>match p with | l0_2=>([(0,.own 0 0 1 0 (l0_2).length false)],[(0,some (0,.buf 1 (l0_2.map (SL 1 I))))],k1 l0_2=some y)) ?_ ?_
 ·skip
  refine reg 4 r<|go 2 r<|dv r r r r (by decide)<|go 1 r<|dn<|at_block<|loopD [3,8,9,10] [] r r (fun (p:Nat × Int × (List (List Int)))=>match p with | (n2,v11_1,l0_1)=>([(0,.own 0 0 1 0 (l0_1).length false),(11,(I v11_1))],[(0,some (0,.buf 1 (l0_1.map (SL 1 I))))],p_bB K a2 a1 a3 n2 v11_1 l0_1=some o1)) (K,(w64 (Int.tdiv (w64 ((w64 (a2 - a1)) - 1)) 2)),a0) (lk r) (hk r) hy<|?_
  rintro ⟨n2,v11_1,l0_1⟩ cl hy
  obtain _ | n2:=n2;· cases hy
  refine nf r r<|?_
  replace hy:_=some _:=hy
  rw [p_bB] at hy
  refine at_seq<|rg r<|cdH r hy (fun hy=>?_) fun hy=>?_
  ·refine at_skip<|at_seq<|at_block<|reg1 6 r<|go 5 r<|bndH hy fun r1 qr1 hy=>?_
   obtain ⟨tr1,hy⟩:=lenI hy
   refine clo1 (s:=0) (w_dW (a4h:=a3h) (a4k:=a3k) (a4l:=a3l) (a4p:=a3p) (a4q:=a3q) qr1) ca156 r (.tup (.nil)) r r (pu_l 1 pu_I) ?_ r ?_
   ·exact .cons _ _ _ _ (rnOwn (List.Mem.head _) (by first | rfl | simp)) (.cons _ _ _ _ (.pu _ (pu_I _)) (.cons _ _ _ _ (.pu _ (pu_I _)) (.cons _ _ _ _ (.pu _ (pu_I _)) (.cons _ _ _ _ (.pu _ (pu_fn a3p a3q)) (.nil)))))
   refine teq 0 (y:=.own 0 0 1 0 r1.length false) r (by first | (rw [tr1];done) | simp [tr1])<|dn<|at_bn<|rg1 r<|againD (n2,(w64 (v11_1 - 1)),r1) (lk r) (hk r) r r hy r
  ·exact at_exit<|at_te<|at_te<|at_inBlock<|metD l0_1 (lk r) (hk r) r r (sj2 hy hc1)
 ·rintro l0_2 cl hy
  subst hk1
  refine nf r r<|rg r<|at_block<|loopD [3,8,9] [] r r (fun (p:Nat × Int × (List (List Int)))=>match p with | (n3,v12_3,l0_3)=>([(0,.own 0 0 1 0 (l0_3).length false),(12,(I v12_3))],[(0,some (0,.buf 1 (l0_3.map (SL 1 I))))],p_bC K a1 a3 n3 v12_3 l0_3=some y)) (K,(w64 ((w64 (a2 - a1)) - 1)),l0_2) (lk r) (hk r) hy<|?_
  rintro ⟨n3,v12_3,l0_3⟩ cl hy
  obtain _ | n3:=n3;· cases hy
  refine nf r r<|?_
  replace hy:_=some _:=hy
  rw [p_bC] at hy
  refine at_seq<|rg r<|cdH r hy (fun hy=>?_) fun hy=>?_
  ·refine at_skip<|at_seq<|at_block<|regd mixed 20 r<|go 10 r<|bdH hy fun i2 qi2 bi2 hy=>gtH hy fun v3 xv3 hy=>ixP' sl30 qi2 bi2 r r r r<|ldP (f:=(SL 1 I)) tk29 xv3 r r r r r<|go 2 r<|bdH hy fun i4 qi4 bi4 hy=>gtH hy fun v5 xv5 hy=>ixP' sl30 qi4 bi4 r r r r<|ldP (f:=(SL 1 I)) tk29 xv5 r r r r r<|bdH hy fun i6 qi6 bi6 hy=>gtH hy fun v7 xv7 hy=>ixP' sl30 qi6 bi6 r r r r<|stP (f:=(SL 1 I)) (v3) tk29 xv7 r r r r r r<|bdH hy fun i8 qi8 bi8 hy=>gtH hy fun v9 xv9 hy=>ixP' sl30 qi8 bi8 r r r r<|stP (f:=(SL 1 I)) (v5) tk29 xv9 r r r r r r<|dn ⟨by kernel_rfl,?_⟩
   refine reg1 6 r<|go 5 r<|bndH hy fun r10 qr10 hy=>?_
   obtain ⟨tr10,hy⟩:=lenI hy
   refine clo1 (s:=0) (w_dW (a4h:=a3h) (a4k:=a3k) (a4l:=a3l) (a4p:=a3p) (a4q:=a3q) qr10) ca156 r (.tup (.nil)) r r (pu_l 1 pu_I) ?_ r ?_
   ·exact .cons _ _ _ _ (rnOwn (List.Mem.head _) (by first | rfl | simp)) (.cons _ _ _ _ (.pu _ (pu_I _)) (.cons _ _ _ _ (.pu _ (pu_I _)) (.cons _ _ _ _ (.pu _ (pu_I _)) (.cons _ _ _ _ (.pu _ (pu_fn a3p a3q)) (.nil)))))
   refine teq 0 (y:=.own 0 0 1 0 r10.length false) r (by first | (rw [tr10];done) | simp [tr10])<|dn<|at_bn<|rg1 r<|againD (n3,(w64 (v12_3 - 1)),r10) (lk r) (hk r) r r hy r
  ·refine at_exit<|at_te<|at_te<|at_inBlock<|?_
   obtain rfl:=sj hy
   exact outO0 (g1:=(SL 1 I)) r (.inr r) r (pu_l 1 pu_I)
def p_f (K:Nat) (a1:Int) (a3:((List Int)→(List Int)→Option Int)):Nat→Int→(List (List Int))→Option (List (List Int))
 | 0,_,_=>none
 | n+1,v9_1,l0_1=>(bif (decide (v9_1 > a1)) then (bdP l0_1.length v9_1 fun i1=>gtP l0_1 i1 fun v2=>(bdP l0_1.length (w64 (v9_1 - 1)) fun i3=>gtP l0_1 i3 fun v4=>((a3 v2 v4).bind fun r5=>(bif (decide (r5 < 0)) then (bdP l0_1.length (w64 (v9_1 - 1)) fun i6=>gtP l0_1 i6 fun v7=>(bdP l0_1.length v9_1 fun i8=>gtP l0_1 i8 fun v9=>(bdP l0_1.length v9_1 fun i10=>gtP l0_1 i10 fun v11=>(bdP l0_1.length (w64 (v9_1 - 1)) fun i12=>gtP (l0_1.set i10 v7) i12 fun v13=>p_f K a1 a3 n (w64 (v9_1 - 1)) ((l0_1.set i10 v7).set i12 v9))))) else some l0_1)))) else some l0_1)
def p_g (K:Nat) (a2:Int) (a1:Int) (a3:((List Int)→(List Int)→Option Int)):Nat→Int→(List (List Int))→Option (List (List Int))
 | 0,_,_=>none
 | n+1,v8_3,l0_3=>(bif (decide (v8_3 < a2)) then ((p_f K a1 a3 K v8_3 l0_3:Option (List (List Int))).bind fun l0_2=>p_g K a2 a1 a3 n (w64 (v8_3+1)) l0_2) else some l0_3)
def p_O (K:Nat) (a0:(List (List Int))) (a1:Int) (a2:Int) (a3:((List Int)→(List Int)→Option Int)):Option (List (List Int)) :=
 p_g K a2 a1 a3 K (w64 (a1+1)) a0
theorem w_eW {K:Nat}{a0:(List (List Int))}{a1:Int}{a2:Int}{a3:((List Int)→(List Int)→Option Int)}{y:(List (List Int))}{a3f:FuncId}{a3s a3c:List AV} (a3h:∀ {x0:(List Int)}{x1:(List Int)}{r:Int},a3 x0 x1=some r→Does PP GV a3f [] (a3s++[((SL 1 I) x0),((SL 1 I) x1)]++a3c) [] [] (I r)) (a3k:callable PP a3f=true) (a3l:a3s.all flat=true∧a3c.all flat=true) (a3p:PuL a3s) (a3q:PuL a3c) (hy:p_O K a0 a1 a2 a3=some y):Does PP GV 148 [.buf 1 (a0.map (SL 1 I))] [.own 0 0 1 0 a0.length false,(I a1),(I a2),.fn (.func a3f) a3s a3c] [0] [.buf 1 (y.map (SL 1 I))] (.tup []):=by
 unfold p_O at hy
 refine does_of at148 r (le_ok r)<|?_
 rintro ⟨_,base,w0,F⟩ rfl
 refine rg r<|at_block<|loopD [1,2,3] [] r r (fun (p:Nat × Int × (List (List Int)))=>match p with | (n1,v8_3,l0_3)=>([(0,.own 0 0 1 0 (l0_3).length false),(8,(I v8_3))],[(0,some (0,.buf 1 (l0_3.map (SL 1 I))))],p_g K a2 a1 a3 n1 v8_3 l0_3=some y)) (K,(w64 (a1+1)),a0) (lk r) (hk r) hy<|?_
 rintro ⟨n1,v8_3,l0_3⟩ cl hy
 obtain _ | n1:=n1;· cases hy
 refine nf r r<|?_
 replace hy:_=some _:=hy
 rw [p_g] at hy
 refine at_seq<|rg r<|cdH r hy (fun hy=>?_) fun hy=>?_
 ·refine at_skip<|bkH hy fun o2 hy k2 hk2 hc2=>meetD [1,2,3,8] [] r r (fun (p:(List (List Int)))=>match p with | l0_2=>([(0,.own 0 0 1 0 (l0_2).length false)],[(0,some (0,.buf 1 (l0_2.map (SL 1 I))))],k2 l0_2=some y)) ?_ ?_
  ·skip
   refine at_block<|rg r<|at_block<|loopD [1,2,3,8] [] r r (fun (p:Nat × Int × (List (List Int)))=>match p with | (n3,v9_1,l0_1)=>([(0,.own 0 0 1 0 (l0_1).length false),(9,(I v9_1))],[(0,some (0,.buf 1 (l0_1.map (SL 1 I))))],p_f K a1 a3 n3 v9_1 l0_1=some o2)) (K,v8_3,l0_3) (lk r) (hk r) hy<|?_
   rintro ⟨n3,v9_1,l0_1⟩ cl hy
   obtain _ | n3:=n3;· cases hy
   refine nf r r<|?_
   replace hy:_=some _:=hy
   rw [p_f] at hy
   refine at_seq<|regd mixed 17 r<|go 4 r<|casH 21 r hy (fun hy=>?_) fun hy=>?_
   ·refine go 3 r<|bdH hy fun i1 qi1 bi1 hy=>gtH hy fun v2 xv2 hy=>ixP' sl30 qi1 bi1 r r r r<|ldP (f:=(SL 1 I)) tk29 xv2 r r r r r<|go 3 r<|bdH hy fun i3 qi3 bi3 hy=>gtH hy fun v4 xv4 hy=>ixP' sl30 qi3 bi3 r r r r<|ldP (f:=(SL 1 I)) tk29 xv4 r r r r r<|bndH hy fun r5 qr5 hy=>clv (a3h qr5) a3k r r r r a3l (puL3 a3p (.cons ((pu_l 1 pu_I) _) (.cons ((pu_l 1 pu_I) _) (.nil))) a3q) (.one (pu_I _)) r<|go 2 r<|dn ⟨by kernel_rfl,?_⟩
    refine cdH r hy (fun hy=>?_) fun hy=>?_
    ·refine at_skip<|at_seq<|at_block<|regd1 mixed 18 r<|go 8 r<|bdH hy fun i6 qi6 bi6 hy=>gtH hy fun v7 xv7 hy=>ixP' sl30 qi6 bi6 r r r r<|ldP (f:=(SL 1 I)) tk29 xv7 r r r r r<|go 2 r<|bdH hy fun i8 qi8 bi8 hy=>gtH hy fun v9 xv9 hy=>ixP' sl30 qi8 bi8 r r r r<|ldP (f:=(SL 1 I)) tk29 xv9 r r r r r<|bdH hy fun i10 qi10 bi10 hy=>gtH hy fun v11 xv11 hy=>ixP' sl30 qi10 bi10 r r r r<|stP (f:=(SL 1 I)) (v7) tk29 xv11 r r r r r r<|bdH hy fun i12 qi12 bi12 hy=>gtH hy fun v13 xv13 hy=>ixP' sl30 qi12 bi12 r r r r<|stP (f:=(SL 1 I)) (v9) tk29 xv13 r r r r r r<|dn ⟨by kernel_rfl,?_⟩
     refine at_bn<|rg1 r<|againD (n3,(w64 (v9_1 - 1)),((l0_1.set i10 v7).set i12 v9)) (.k r (by simp) (.j r .nil)) (hk r) r r hy r
    ·exact at_exit<|at_te<|at_te<|at_inBlock<|at_bn<|metD l0_1 (lk r) (hk r) r r (sj2 hy hc2)
   ·refine go 13 r<|dn ⟨by kernel_rfl,?_⟩
    exact cdf r<|at_exit<|at_te<|at_te<|at_inBlock<|at_bn<|metD l0_1 (lk r) (hk r) r r (sj2 hy hc2)
  ·rintro l0_2 cl hy
   subst hk2
   refine nf r r<|rg1 r<|againD (n1,(w64 (v8_3+1)),l0_2) (lk r) (hk r) r r hy r
 ·refine at_exit<|at_te<|at_te<|at_inBlock<|?_
  obtain rfl:=sj hy
  exact outO0 (g1:=(SL 1 I)) r (.inr r) r (pu_l 1 pu_I)
end Go.Ar
namespace Go.Ar
open Go.RowKit
def p_v (K:Nat) (a2:Int) (l0_7:(List (List Int))) (a3:((List Int)→(List Int)→Option Int)):Nat→Int→Option Int
 | 0,_=>none
 | n+1,v9_1=>(bif (decide (v9_1 < a2)) then (bdP l0_7.length v9_1 fun i1=>gtP l0_7 i1 fun v2=>(bdP l0_7.length (w64 (v9_1 - 1)) fun i3=>gtP l0_7 i3 fun v4=>((a3 v2 v4).bind fun r5=>(bif (!(decide (r5 < 0))) then p_v K a2 l0_7 a3 n (w64 (v9_1+1)) else some v9_1)))) else some v9_1)
def p_w (K:Nat) (a3:((List Int)→(List Int)→Option Int)):Nat→Int→(List (List Int))→Option (List (List Int))
 | 0,_,_=>none
 | n+1,v11_3,l0_3=>(bif (decide (v11_3≥1)) then (bdP l0_3.length v11_3 fun i14=>gtP l0_3 i14 fun v15=>(bdP l0_3.length (w64 (v11_3 - 1)) fun i16=>gtP l0_3 i16 fun v17=>((a3 v15 v17).bind fun r18=>(bif (!(decide (r18 < 0))) then some l0_3 else (bdP l0_3.length (w64 (v11_3 - 1)) fun i19=>gtP l0_3 i19 fun v20=>(bdP l0_3.length v11_3 fun i21=>gtP l0_3 i21 fun v22=>(bdP l0_3.length v11_3 fun i23=>gtP l0_3 i23 fun v24=>(bdP l0_3.length (w64 (v11_3 - 1)) fun i25=>gtP (l0_3.set i23 v20) i25 fun v26=>p_w K a3 n (w64 (v11_3 - 1)) ((l0_3.set i23 v20).set i25 v22))))))))) else some l0_3)
def p_x (K:Nat) (a2:Int) (a3:((List Int)→(List Int)→Option Int)) (v9_2:Int):Nat→Int→(List (List Int))→Option (Sum (Int × (List (List Int))) (Sum (List (List Int)) (Bool × (List (List Int)))))
 | 0,_,_=>none
 | n+1,v12_5,l0_5=>(bif (decide (v12_5 < a2)) then (bdP l0_5.length v12_5 fun i27=>gtP l0_5 i27 fun v28=>(bdP l0_5.length (w64 (v12_5 - 1)) fun i29=>gtP l0_5 i29 fun v30=>((a3 v28 v30).bind fun r31=>(bif (!(decide (r31 < 0))) then some (.inl (v9_2,l0_5)) else (bdP l0_5.length (w64 (v12_5 - 1)) fun i32=>gtP l0_5 i32 fun v33=>(bdP l0_5.length v12_5 fun i34=>gtP l0_5 i34 fun v35=>(bdP l0_5.length v12_5 fun i36=>gtP l0_5 i36 fun v37=>(bdP l0_5.length (w64 (v12_5 - 1)) fun i38=>gtP (l0_5.set i36 v33) i38 fun v39=>p_x K a2 a3 v9_2 n (w64 (v12_5+1)) ((l0_5.set i36 v33).set i38 v35))))))))) else some (.inl (v9_2,l0_5)))
def p_y (K:Nat) (a2:Int) (a3:((List Int)→(List Int)→Option Int)) (a1:Int):Nat→Int→Int→(List (List Int))→Option (Sum (List (List Int)) (Bool × (List (List Int))))
 | 0,_,_,_=>none
 | n+1,v9_7,v10_7,l0_7=>(bif (decide (v10_7 < 5)) then ((((p_v K a2 l0_7 a3 K v9_7:Option Int).bind fun v9_2=>(bif (v9_2 == a2) then some (.inr (.inr (true,l0_7))) else (bif (decide ((w64 (a2 - a1)) < 50)) then some (.inr (.inr (false,l0_7))) else (bdP l0_7.length (w64 (v9_2 - 1)) fun i6=>gtP l0_7 i6 fun v7=>(bdP l0_7.length v9_2 fun i8=>gtP l0_7 i8 fun v9=>(bdP l0_7.length v9_2 fun i10=>gtP l0_7 i10 fun v11=>(bdP l0_7.length (w64 (v9_2 - 1)) fun i12=>gtP (l0_7.set i10 v7) i12 fun v13=>(((bif (decide ((w64 (v9_2 - a1))≥2)) then p_w K a3 K (w64 (v9_2 - 1)) ((l0_7.set i10 v7).set i12 v9) else some ((l0_7.set i10 v7).set i12 v9)):Option (List (List Int))).bind fun l0_4=>(bif (decide ((w64 (a2 - v9_2))≥2)) then p_x K a2 a3 v9_2 K (w64 (v9_2+1)) l0_4 else some (.inl (v9_2,l0_4))))))))))):Option (Sum (Int × (List (List Int))) (Sum (List (List Int)) (Bool × (List (List Int)))))).bind fun | .inl (v9_6,l0_6)=>p_y K a2 a3 a1 n v9_6 (w64 (v10_7+1)) l0_6 | .inr r=>some r) else some (.inl l0_7))
def p_bw (K:Nat) (a0:(List (List Int))) (a1:Int) (a2:Int) (a3:((List Int)→(List Int)→Option Int)):Option (Bool × (List (List Int))) :=
 ((p_y K a2 a3 a1 K (w64 (a1+1)) 0 a0:Option (Sum (List (List Int)) (Bool × (List (List Int))))).bind fun | .inl l0_8=>some (false,l0_8) | .inr r=>some r)
theorem w_eb {K:Nat}{a0:(List (List Int))}{a1:Int}{a2:Int}{a3:((List Int)→(List Int)→Option Int)}{y:(Bool × (List (List Int)))}{a3f:FuncId}{a3s a3c:List AV} (a3h:∀ {x0:(List Int)}{x1:(List Int)}{r:Int},a3 x0 x1=some r→Does PP GV a3f [] (a3s++[((SL 1 I) x0),((SL 1 I) x1)]++a3c) [] [] (I r)) (a3k:callable PP a3f=true) (a3l:a3s.all flat=true∧a3c.all flat=true) (a3p:PuL a3s) (a3q:PuL a3c) (hy:p_bw K a0 a1 a2 a3=some y):Does PP GV 153 [.buf 1 (a0.map (SL 1 I))] [.own 0 0 1 0 a0.length false,(I a1),(I a2),.fn (.func a3f) a3s a3c] [0] [.buf 1 (y.2.map (SL 1 I))] (B y.1):=by
 unfold p_bw at hy
 refine does_of at153 r (le_ok r)<|?_
 rintro ⟨_,base,w0,F⟩ rfl
 refine rg r<|rg r<|bkH hy fun o1 hy k1 hk1 hc1=>meetD [] [] r r (fun (p:(List (List Int)))=>match p with | l0_8=>([(0,.own 0 0 1 0 (l0_8).length false)],[(0,some (0,.buf 1 (l0_8.map (SL 1 I))))],k1 (.inl l0_8)=some y)) ?_ ?_
 ·skip
  refine rg r<|at_block<|loopD [1,2,3] [] r r (fun (p:Nat × Int × Int × (List (List Int)))=>match p with | (n2,v9_7,v10_7,l0_7)=>([(0,.own 0 0 1 0 (l0_7).length false),(9,(I v9_7)),(10,(I v10_7))],[(0,some (0,.buf 1 (l0_7.map (SL 1 I))))],p_y K a2 a3 a1 n2 v9_7 v10_7 l0_7=some o1)) (K,(w64 (a1+1)),0,a0) (lk r) (hk r) hy<|?_
  rintro ⟨n2,v9_7,v10_7,l0_7⟩ cl hy
  obtain _ | n2:=n2;· cases hy
  refine nf r r<|?_
  replace hy:_=some _:=hy
  rw [p_y] at hy
  refine at_seq<|rg r<|cdH r hy (fun hy=>?_) fun hy=>?_
  ·refine at_skip<|bkH hy fun o3 hy k3 hk3 hc3=>meetD [1,2,3,10] [] r r (fun (p:Int × (List (List Int)))=>match p with | (v9_6,l0_6)=>([(0,.own 0 0 1 0 (l0_6).length false),(9,(I v9_6))],[(0,some (0,.buf 1 (l0_6.map (SL 1 I))))],k3 (.inl (v9_6,l0_6))=some o1)) ?_ ?_
   ·skip
    refine at_block<|bkH hy fun o4 hy k4 hk4 hc4=>meetD [0,1,2,3,10] [0] r r (fun (p:Int)=>match p with | v9_2=>([(9,(I v9_2))],[],k4 v9_2=some o3)) ?_ ?_
    ·skip
     refine at_block<|loopD [0,1,2,3,10] [0] r r (fun (p:Nat × Int)=>match p with | (n5,v9_1)=>([(9,(I v9_1))],[],p_v K a2 l0_7 a3 n5 v9_1=some o4)) (K,v9_7) (lk r) .nil hy<|?_
     rintro ⟨n5,v9_1⟩ cl hy
     obtain _ | n5:=n5;· cases hy
     refine nf r r<|?_
     replace hy:_=some _:=hy
     rw [p_v] at hy
     refine at_seq<|regd mixed 18 r<|go 4 r<|casH 22 r hy (fun hy=>?_) fun hy=>?_
     ·refine go 3 r<|bdH hy fun i1 qi1 bi1 hy=>gtH hy fun v2 xv2 hy=>ixP' sl30 qi1 bi1 r r r r<|ldP (f:=(SL 1 I)) tk29 xv2 r r r r r<|go 3 r<|bdH hy fun i3 qi3 bi3 hy=>gtH hy fun v4 xv4 hy=>ixP' sl30 qi3 bi3 r r r r<|ldP (f:=(SL 1 I)) tk29 xv4 r r r r r<|bndH hy fun r5 qr5 hy=>clv (a3h qr5) a3k r r r r a3l (puL3 a3p (.cons ((pu_l 1 pu_I) _) (.cons ((pu_l 1 pu_I) _) (.nil))) a3q) (.one (pu_I _)) r<|go 3 r<|dn ⟨by kernel_rfl,?_⟩
      refine cdH r hy (fun hy=>?_) fun hy=>?_
      ·refine at_skip<|at_block<|rg1 r<|at_bn<|againD (n5,(w64 (v9_1+1))) (lk r) .nil r r hy r
      ·exact at_exit<|at_te<|at_te<|at_inBlock<|metD v9_1 (lk r) .nil r r (sj2 hy hc4)
     ·refine go 14 r<|dn ⟨by kernel_rfl,?_⟩
      exact cdf r<|at_exit<|at_te<|at_te<|at_inBlock<|metD v9_1 (lk r) .nil r r (sj2 hy hc4)
    ·rintro v9_2 cl hy
     subst hk4
     refine nf r r<|at_seq<|rg r<|cdH r hy (fun hy=>?_) fun hy=>?_
     ·refine rg r<|at_ret<|?_
      obtain rfl:=sj hy
      subst hk3;obtain rfl:=sj hc3
      subst hk1;obtain rfl:=sj hc1
      exact outO1 (g1:=(SL 1 I)) r (.inl r) r (pu_B _) r (pu_l 1 pu_I)
     ·refine at_skip<|at_seq<|rg r<|cdH r hy (fun hy=>?_) fun hy=>?_
      ·refine rg r<|at_ret<|?_
       obtain rfl:=sj hy
       subst hk3;obtain rfl:=sj hc3
       subst hk1;obtain rfl:=sj hc1
       exact outO1 (g1:=(SL 1 I)) r (.inl r) r (pu_B _) r (pu_l 1 pu_I)
      ·refine at_skip<|regd mixed 18 r<|go 8 r<|bdH hy fun i6 qi6 bi6 hy=>gtH hy fun v7 xv7 hy=>ixP' sl30 qi6 bi6 r r r r<|ldP (f:=(SL 1 I)) tk29 xv7 r r r r r<|go 2 r<|bdH hy fun i8 qi8 bi8 hy=>gtH hy fun v9 xv9 hy=>ixP' sl30 qi8 bi8 r r r r<|ldP (f:=(SL 1 I)) tk29 xv9 r r r r r<|bdH hy fun i10 qi10 bi10 hy=>gtH hy fun v11 xv11 hy=>ixP' sl30 qi10 bi10 r r r r<|stP (f:=(SL 1 I)) (v7) tk29 xv11 r r r r r r<|bdH hy fun i12 qi12 bi12 hy=>gtH hy fun v13 xv13 hy=>ixP' sl30 qi12 bi12 r r r r<|stP (f:=(SL 1 I)) (v9) tk29 xv13 r r r r r r<|dn ⟨by kernel_rfl,?_⟩
       refine bkH hy fun o6 hy k6 hk6 hc6=>meetD [1,2,3,9,10] [] r r (fun (p:(List (List Int)))=>match p with | l0_4=>([(0,.own 0 0 1 0 (l0_4).length false)],[(0,some (0,.buf 1 (l0_4.map (SL 1 I))))],k6 l0_4=some o3)) ?_ ?_
       ·skip
        refine rg r<|cdH r hy (fun hy=>?_) fun hy=>?_
        ·refine rg r<|at_block<|loopD [1,2,3,9,10] [] r r (fun (p:Nat × Int × (List (List Int)))=>match p with | (n7,v11_3,l0_3)=>([(0,.own 0 0 1 0 (l0_3).length false),(11,(I v11_3))],[(0,some (0,.buf 1 (l0_3.map (SL 1 I))))],p_w K a3 n7 v11_3 l0_3=some o6)) (K,(w64 (v9_2 - 1)),((l0_7.set i10 v7).set i12 v9)) (.k r (by simp) (.j r .nil)) (hk r) hy<|?_
         rintro ⟨n7,v11_3,l0_3⟩ cl hy
         obtain _ | n7:=n7;· cases hy
         refine nf r r<|?_
         replace hy:_=some _:=hy
         rw [p_w] at hy
         refine at_seq<|rg r<|cdH r hy (fun hy=>?_) fun hy=>?_
         ·refine at_skip<|at_seq<|at_block<|at_seq<|regd mixed 13 r<|go 3 r<|bdH hy fun i14 qi14 bi14 hy=>gtH hy fun v15 xv15 hy=>ixP' sl30 qi14 bi14 r r r r<|ldP (f:=(SL 1 I)) tk29 xv15 r r r r r<|go 3 r<|bdH hy fun i16 qi16 bi16 hy=>gtH hy fun v17 xv17 hy=>ixP' sl30 qi16 bi16 r r r r<|ldP (f:=(SL 1 I)) tk29 xv17 r r r r r<|bndH hy fun r18 qr18 hy=>clv (a3h qr18) a3k r r r r a3l (puL3 a3p (.cons ((pu_l 1 pu_I) _) (.cons ((pu_l 1 pu_I) _) (.nil))) a3q) (.one (pu_I _)) r<|go 2 r<|dn ⟨by kernel_rfl,?_⟩
          refine cdH r hy (fun hy=>?_) fun hy=>?_
          ·exact at_exit<|at_te<|at_outBlock (by decide)<|at_te<|at_te<|at_inBlock<|metD l0_3 (lk r) (hk r) r r (sj2 hy hc6)
          ·refine at_skip<|regd1 mixed 18 r<|go 8 r<|bdH hy fun i19 qi19 bi19 hy=>gtH hy fun v20 xv20 hy=>ixP' sl30 qi19 bi19 r r r r<|ldP (f:=(SL 1 I)) tk29 xv20 r r r r r<|go 2 r<|bdH hy fun i21 qi21 bi21 hy=>gtH hy fun v22 xv22 hy=>ixP' sl30 qi21 bi21 r r r r<|ldP (f:=(SL 1 I)) tk29 xv22 r r r r r<|bdH hy fun i23 qi23 bi23 hy=>gtH hy fun v24 xv24 hy=>ixP' sl30 qi23 bi23 r r r r<|stP (f:=(SL 1 I)) (v20) tk29 xv24 r r r r r r<|bdH hy fun i25 qi25 bi25 hy=>gtH hy fun v26 xv26 hy=>ixP' sl30 qi25 bi25 r r r r<|stP (f:=(SL 1 I)) (v22) tk29 xv26 r r r r r r<|dn ⟨by kernel_rfl,?_⟩
           refine at_bn<|rg1 r<|againD (n7,(w64 (v11_3 - 1)),((l0_3.set i23 v20).set i25 v22)) (.k r (by simp) (.j r .nil)) (hk r) r r hy r
         ·exact at_exit<|at_te<|at_te<|at_inBlock<|metD l0_3 (lk r) (hk r) r r (sj2 hy hc6)
        ·exact at_skip<|metD ((l0_7.set i10 v7).set i12 v9) (.k r (by simp) .nil) (hk r) r r (sj2 hy hc6)
       ·rintro l0_4 cl hy
        subst hk6
        refine nf r r<|rg r<|cdH r hy (fun hy=>?_) fun hy=>?_
        ·refine rg r<|at_block<|loopD [1,2,3,9,10] [] r r (fun (p:Nat × Int × (List (List Int)))=>match p with | (n8,v12_5,l0_5)=>([(0,.own 0 0 1 0 (l0_5).length false),(12,(I v12_5))],[(0,some (0,.buf 1 (l0_5.map (SL 1 I))))],p_x K a2 a3 v9_2 n8 v12_5 l0_5=some o3)) (K,(w64 (v9_2+1)),l0_4) (lk r) (hk r) hy<|?_
         rintro ⟨n8,v12_5,l0_5⟩ cl hy
         obtain _ | n8:=n8;· cases hy
         refine nf r r<|?_
         replace hy:_=some _:=hy
         rw [p_x] at hy
         refine at_seq<|rg r<|cdH r hy (fun hy=>?_) fun hy=>?_
         ·refine at_skip<|at_seq<|at_block<|at_seq<|regd mixed 13 r<|go 3 r<|bdH hy fun i27 qi27 bi27 hy=>gtH hy fun v28 xv28 hy=>ixP' sl30 qi27 bi27 r r r r<|ldP (f:=(SL 1 I)) tk29 xv28 r r r r r<|go 3 r<|bdH hy fun i29 qi29 bi29 hy=>gtH hy fun v30 xv30 hy=>ixP' sl30 qi29 bi29 r r r r<|ldP (f:=(SL 1 I)) tk29 xv30 r r r r r<|bndH hy fun r31 qr31 hy=>clv (a3h qr31) a3k r r r r a3l (puL3 a3p (.cons ((pu_l 1 pu_I) _) (.cons ((pu_l 1 pu_I) _) (.nil))) a3q) (.one (pu_I _)) r<|go 2 r<|dn ⟨by kernel_rfl,?_⟩
          refine cdH r hy (fun hy=>?_) fun hy=>?_
          ·exact at_exit<|at_te<|at_outBlock (by decide)<|at_te<|at_te<|at_inBlock<|at_bn<|metD (v9_2,l0_5) (lk r) (hk r) r r (sj2 hy hc3)
          ·refine at_skip<|regd1 mixed 18 r<|go 8 r<|bdH hy fun i32 qi32 bi32 hy=>gtH hy fun v33 xv33 hy=>ixP' sl30 qi32 bi32 r r r r<|ldP (f:=(SL 1 I)) tk29 xv33 r r r r r<|go 2 r<|bdH hy fun i34 qi34 bi34 hy=>gtH hy fun v35 xv35 hy=>ixP' sl30 qi34 bi34 r r r r<|ldP (f:=(SL 1 I)) tk29 xv35 r r r r r<|bdH hy fun i36 qi36 bi36 hy=>gtH hy fun v37 xv37 hy=>ixP' sl30 qi36 bi36 r r r r<|stP (f:=(SL 1 I)) (v33) tk29 xv37 r r r r r r<|bdH hy fun i38 qi38 bi38 hy=>gtH hy fun v39 xv39 hy=>ixP' sl30 qi38 bi38 r r r r<|stP (f:=(SL 1 I)) (v35) tk29 xv39 r r r r r r<|dn ⟨by kernel_rfl,?_⟩
           refine at_bn<|rg1 r<|againD (n8,(w64 (v12_5+1)),((l0_5.set i36 v33).set i38 v35)) (.k r (by simp) (.j r .nil)) (hk r) r r hy r
         ·exact at_exit<|at_te<|at_te<|at_inBlock<|at_bn<|metD (v9_2,l0_5) (lk r) (hk r) r r (sj2 hy hc3)
        ·exact at_skip<|at_bn<|metD (v9_2,l0_4) (lk r) (hk r) r r (sj2 hy hc3)
   ·rintro ⟨v9_6,l0_6⟩ cl hy
    subst hk3
    refine nf r r<|rg1 r<|againD (n2,v9_6,(w64 (v10_7+1)),l0_6) (lk r) (hk r) r r hy r
  ·exact at_exit<|at_te<|at_te<|at_inBlock<|metD l0_7 (lk r) (hk r) r r (sj2 hy hc1)
 ·rintro l0_8 cl hy
  subst hk1
  refine nf r r<|rg r<|at_ret<|?_
  obtain rfl:=sj hy
  exact outO1 (g1:=(SL 1 I)) r (.inl r) r (pu_B _) r (pu_l 1 pu_I)
def p_br (K:Nat) (a2:Int) (a1:Int) (a4:((List Int)→(List Int)→Option Int)):Nat→Int→(List (List Int))→Option (Int × (List (List Int)))
 | 0,_,_=>none
 | n+1,v12_1,l0_1=>(bif (decide (v12_1≤(w64 (a2 - 1)))) then (bdP l0_1.length v12_1 fun i9=>gtP l0_1 i9 fun v10=>(bdP l0_1.length a1 fun i11=>gtP l0_1 i11 fun v12=>((a4 v10 v12).bind fun r13=>(bif (decide (r13 < 0)) then p_br K a2 a1 a4 n (w64 (v12_1+1)) l0_1 else some (v12_1,l0_1))))) else some (v12_1,l0_1))
def p_bs (K:Nat) (v12_2:Int) (l0_2:(List (List Int))) (a1:Int) (a4:((List Int)→(List Int)→Option Int)):Nat→Int→Option Int
 | 0,_=>none
 | n+1,v13_3=>(bif (decide (v12_2≤v13_3)) then (bdP l0_2.length v13_3 fun i14=>gtP l0_2 i14 fun v15=>(bdP l0_2.length a1 fun i16=>gtP l0_2 i16 fun v17=>((a4 v15 v17).bind fun r18=>(bif (!(decide (r18 < 0))) then p_bs K v12_2 l0_2 a1 a4 n (w64 (v13_3 - 1)) else some v13_3)))) else some v13_3)
def p_bt (K:Nat) (v13_10:Int) (l0_10:(List (List Int))) (a1:Int) (a4:((List Int)→(List Int)→Option Int)):Nat→Int→Option Int
 | 0,_=>none
 | n+1,v12_5=>(bif (decide (v12_5≤v13_10)) then (bdP l0_10.length v12_5 fun i35=>gtP l0_10 i35 fun v36=>(bdP l0_10.length a1 fun i37=>gtP l0_10 i37 fun v38=>((a4 v36 v38).bind fun r39=>(bif (decide (r39 < 0)) then p_bt K v13_10 l0_10 a1 a4 n (w64 (v12_5+1)) else some v12_5)))) else some v12_5)
def p_bu (K:Nat) (v12_6:Int) (l0_10:(List (List Int))) (a1:Int) (a4:((List Int)→(List Int)→Option Int)):Nat→Int→Option Int
 | 0,_=>none
 | n+1,v13_7=>(bif (decide (v12_6≤v13_7)) then (bdP l0_10.length v13_7 fun i40=>gtP l0_10 i40 fun v41=>(bdP l0_10.length a1 fun i42=>gtP l0_10 i42 fun v43=>((a4 v41 v43).bind fun r44=>(bif (!(decide (r44 < 0))) then p_bu K v12_6 l0_10 a1 a4 n (w64 (v13_7 - 1)) else some v13_7)))) else some v13_7)
def p_bv (K:Nat) (a1:Int) (a4:((List Int)→(List Int)→Option Int)):Nat→Int→Int→(List (List Int))→Option (Int × (List (List Int)))
 | 0,_,_,_=>none
 | n+1,v12_10,v13_10,l0_10=>((((p_bt K v13_10 l0_10 a1 a4 K v12_10:Option Int).bind fun v12_6=>((p_bu K v12_6 l0_10 a1 a4 K v13_10:Option Int).bind fun v13_8=>(bif (decide (v12_6 > v13_8)) then some (.inr (v13_8,l0_10)) else (bdP l0_10.length v13_8 fun i45=>gtP l0_10 i45 fun v46=>(bdP l0_10.length v12_6 fun i47=>gtP l0_10 i47 fun v48=>(bdP l0_10.length v12_6 fun i49=>gtP l0_10 i49 fun v50=>(bdP l0_10.length v13_8 fun i51=>gtP (l0_10.set i49 v46) i51 fun v52=>some (.inl ((w64 (v12_6+1)),(w64 (v13_8 - 1)),((l0_10.set i49 v46).set i51 v48)))))))))):Option (Sum (Int × Int × (List (List Int))) (Int × (List (List Int))))).bind fun | .inl (v12_9,v13_9,l0_9)=>p_bv K a1 a4 n v12_9 v13_9 l0_9 | .inr r=>some r)
def p_bS (K:Nat) (a0:(List (List Int))) (a1:Int) (a2:Int) (a3:Int) (a4:((List Int)→(List Int)→Option Int)):Option (Int × Bool × (List (List Int))) :=
 (bdP a0.length a3 fun i1=>gtP a0 i1 fun v2=>(bdP a0.length a1 fun i3=>gtP a0 i3 fun v4=>(bdP a0.length a1 fun i5=>gtP a0 i5 fun v6=>(bdP a0.length a3 fun i7=>gtP (a0.set i5 v2) i7 fun v8=>((p_br K a2 a1 a4 K (w64 (a1+1)) ((a0.set i5 v2).set i7 v4):Option (Int × (List (List Int)))).bind fun (v12_2,l0_2)=>((p_bs K v12_2 l0_2 a1 a4 K (w64 (a2 - 1)):Option Int).bind fun v13_4=>(bif (decide (v12_2 > v13_4)) then (bdP l0_2.length a1 fun i19=>gtP l0_2 i19 fun v20=>(bdP l0_2.length v13_4 fun i21=>gtP l0_2 i21 fun v22=>(bdP l0_2.length v13_4 fun i23=>gtP l0_2 i23 fun v24=>(bdP l0_2.length a1 fun i25=>gtP (l0_2.set i23 v20) i25 fun v26=>some (v13_4,true,((l0_2.set i23 v20).set i25 v22)))))) else (bdP l0_2.length v13_4 fun i27=>gtP l0_2 i27 fun v28=>(bdP l0_2.length v12_2 fun i29=>gtP l0_2 i29 fun v30=>(bdP l0_2.length v12_2 fun i31=>gtP l0_2 i31 fun v32=>(bdP l0_2.length v13_4 fun i33=>gtP (l0_2.set i31 v28) i33 fun v34=>((p_bv K a1 a4 K (w64 (v12_2+1)) (w64 (v13_4 - 1)) ((l0_2.set i31 v28).set i33 v30):Option (Int × (List (List Int)))).bind fun (v13_11,l0_11)=>(bdP l0_11.length a1 fun i53=>gtP l0_11 i53 fun v54=>(bdP l0_11.length v13_11 fun i55=>gtP l0_11 i55 fun v56=>(bdP l0_11.length v13_11 fun i57=>gtP l0_11 i57 fun v58=>(bdP l0_11.length a1 fun i59=>gtP (l0_11.set i57 v54) i59 fun v60=>some (v13_11,false,((l0_11.set i57 v54).set i59 v56))))))))))))))))))
theorem w_dP {K:Nat}{a0:(List (List Int))}{a1:Int}{a2:Int}{a3:Int}{a4:((List Int)→(List Int)→Option Int)}{y:(Int × Bool × (List (List Int)))}{a4f:FuncId}{a4s a4c:List AV} (a4h:∀ {x0:(List Int)}{x1:(List Int)}{r:Int},a4 x0 x1=some r→Does PP GV a4f [] (a4s++[((SL 1 I) x0),((SL 1 I) x1)]++a4c) [] [] (I r)) (a4k:callable PP a4f=true) (a4l:a4s.all flat=true∧a4c.all flat=true) (a4p:PuL a4s) (a4q:PuL a4c) (hy:p_bS K a0 a1 a2 a3 a4=some y):Does PP GV 155 [.buf 1 (a0.map (SL 1 I))] [.own 0 0 1 0 a0.length false,(I a1),(I a2),(I a3),.fn (.func a4f) a4s a4c] [0] [.buf 1 (y.2.2.map (SL 1 I))] (.tup [(I y.1),(B y.2.1)]):=by
 unfold p_bS at hy
 refine does_of at155 r (le_ok r)<|?_
 rintro ⟨_,base,w0,F⟩ rfl
 refine rg r<|regd mixed 16 r<|go 6 r<|bdH hy fun i1 qi1 bi1 hy=>gtH hy fun v2 xv2 hy=>ixP' sl30 qi1 bi1 r r r r<|ldP (f:=(SL 1 I)) tk29 xv2 r r r r r<|go 2 r<|bdH hy fun i3 qi3 bi3 hy=>gtH hy fun v4 xv4 hy=>ixP' sl30 qi3 bi3 r r r r<|ldP (f:=(SL 1 I)) tk29 xv4 r r r r r<|bdH hy fun i5 qi5 bi5 hy=>gtH hy fun v6 xv6 hy=>ixP' sl30 qi5 bi5 r r r r<|stP (f:=(SL 1 I)) (v2) tk29 xv6 r r r r r r<|bdH hy fun i7 qi7 bi7 hy=>gtH hy fun v8 xv8 hy=>ixP' sl30 qi7 bi7 r r r r<|stP (f:=(SL 1 I)) (v4) tk29 xv8 r r r r r r<|dn ⟨by kernel_rfl,?_⟩
 refine rg r<|bkH hy fun o1 hy k1 hk1 hc1=>meetD [1,4,13] [] r r (fun (p:Int × (List (List Int)))=>match p with | (v12_2,l0_2)=>([(0,.own 0 0 1 0 (l0_2).length false),(12,(I v12_2))],[(0,some (0,.buf 1 (l0_2.map (SL 1 I))))],k1 (v12_2,l0_2)=some y)) ?_ ?_
 ·skip
  refine at_block<|loopD [1,4,13] [] r r (fun (p:Nat × Int × (List (List Int)))=>match p with | (n2,v12_1,l0_1)=>([(0,.own 0 0 1 0 (l0_1).length false),(12,(I v12_1))],[(0,some (0,.buf 1 (l0_1.map (SL 1 I))))],p_br K a2 a1 a4 n2 v12_1 l0_1=some o1)) (K,(w64 (a1+1)),((a0.set i5 v2).set i7 v4)) (.k r (by simp) (.j r .nil)) (hk r) hy<|?_
  rintro ⟨n2,v12_1,l0_1⟩ cl hy
  obtain _ | n2:=n2;· cases hy
  refine nf r r<|?_
  replace hy:_=some _:=hy
  rw [p_br] at hy
  refine at_seq<|regd mixed 16 r<|go 4 r<|casH 35 r hy (fun hy=>?_) fun hy=>?_
  ·refine go 3 r<|bdH hy fun i9 qi9 bi9 hy=>gtH hy fun v10 xv10 hy=>ixP' sl30 qi9 bi9 r r r r<|ldP (f:=(SL 1 I)) tk29 xv10 r r r r r<|go 2 r<|bdH hy fun i11 qi11 bi11 hy=>gtH hy fun v12 xv12 hy=>ixP' sl30 qi11 bi11 r r r r<|ldP (f:=(SL 1 I)) tk29 xv12 r r r r r<|bndH hy fun r13 qr13 hy=>clv (a4h qr13) a4k r r r r a4l (puL3 a4p (.cons ((pu_l 1 pu_I) _) (.cons ((pu_l 1 pu_I) _) (.nil))) a4q) (.one (pu_I _)) r<|go 2 r<|dn ⟨by kernel_rfl,?_⟩
   refine cdH r hy (fun hy=>?_) fun hy=>?_
   ·refine at_skip<|at_block<|rg1 r<|at_bn<|againD (n2,(w64 (v12_1+1)),l0_1) (lk r) (hk r) r r hy r
   ·exact at_exit<|at_te<|at_te<|at_inBlock<|metD (v12_1,l0_1) (lk r) (hk r) r r (sj2 hy hc1)
  ·refine go 12 r<|dn ⟨by kernel_rfl,?_⟩
   exact cdf r<|at_exit<|at_te<|at_te<|at_inBlock<|metD (v12_1,l0_1) (lk r) (hk r) r r (sj2 hy hc1)
 ·rintro ⟨v12_2,l0_2⟩ cl hy
  subst hk1
  refine nf r r<|bkH hy fun o3 hy k3 hk3 hc3=>meetD [0,1,4,12] [0] r r (fun (p:Int)=>match p with | v13_4=>([(13,(I v13_4))],[],k3 v13_4=some y)) ?_ ?_
  ·skip
   refine at_block<|loopD [0,1,4,12] [0] r r (fun (p:Nat × Int)=>match p with | (n4,v13_3)=>([(13,(I v13_3))],[],p_bs K v12_2 l0_2 a1 a4 n4 v13_3=some o3)) (K,(w64 (a2 - 1))) (lk r) .nil hy<|?_
   rintro ⟨n4,v13_3⟩ cl hy
   obtain _ | n4:=n4;· cases hy
   refine nf r r<|?_
   replace hy:_=some _:=hy
   rw [p_bs] at hy
   refine at_seq<|regd mixed 17 r<|go 4 r<|casH 53 r hy (fun hy=>?_) fun hy=>?_
   ·refine go 3 r<|bdH hy fun i14 qi14 bi14 hy=>gtH hy fun v15 xv15 hy=>ixP' sl30 qi14 bi14 r r r r<|ldP (f:=(SL 1 I)) tk29 xv15 r r r r r<|go 2 r<|bdH hy fun i16 qi16 bi16 hy=>gtH hy fun v17 xv17 hy=>ixP' sl30 qi16 bi16 r r r r<|ldP (f:=(SL 1 I)) tk29 xv17 r r r r r<|bndH hy fun r18 qr18 hy=>clv (a4h qr18) a4k r r r r a4l (puL3 a4p (.cons ((pu_l 1 pu_I) _) (.cons ((pu_l 1 pu_I) _) (.nil))) a4q) (.one (pu_I _)) r<|go 3 r<|dn ⟨by kernel_rfl,?_⟩
    refine cdH r hy (fun hy=>?_) fun hy=>?_
    ·refine at_skip<|at_block<|rg1 r<|at_bn<|againD (n4,(w64 (v13_3 - 1))) (lk r) .nil r r hy r
    ·exact at_exit<|at_te<|at_te<|at_inBlock<|metD v13_3 (lk r) .nil r r (sj2 hy hc3)
   ·refine go 13 r<|dn ⟨by kernel_rfl,?_⟩
    exact cdf r<|at_exit<|at_te<|at_te<|at_inBlock<|metD v13_3 (lk r) .nil r r (sj2 hy hc3)
  ·rintro v13_4 cl hy
   subst hk3
   refine nf r r<|at_seq<|rg r<|cdH r hy (fun hy=>?_) fun hy=>?_
   ·refine regd mixed 16 r<|go 6 r<|bdH hy fun i19 qi19 bi19 hy=>gtH hy fun v20 xv20 hy=>ixP' sl30 qi19 bi19 r r r r<|ldP (f:=(SL 1 I)) tk29 xv20 r r r r r<|go 2 r<|bdH hy fun i21 qi21 bi21 hy=>gtH hy fun v22 xv22 hy=>ixP' sl30 qi21 bi21 r r r r<|ldP (f:=(SL 1 I)) tk29 xv22 r r r r r<|bdH hy fun i23 qi23 bi23 hy=>gtH hy fun v24 xv24 hy=>ixP' sl30 qi23 bi23 r r r r<|stP (f:=(SL 1 I)) (v20) tk29 xv24 r r r r r r<|bdH hy fun i25 qi25 bi25 hy=>gtH hy fun v26 xv26 hy=>ixP' sl30 qi25 bi25 r r r r<|stP (f:=(SL 1 I)) (v22) tk29 xv26 r r r r r r<|dn ⟨by kernel_rfl,?_⟩
    refine rg r<|at_ret<|?_
    obtain rfl:=sj hy
    exact outOs (g1:=(SL 1 I)) (rs:=[10,11]) (res2 r) (by simp) (.inl r) (looks_of r) r r (pu_l 1 pu_I) (.cons (pu_I _) (.cons (pu_B _) (.nil)))
   ·refine at_skip<|regd mixed 16 r<|go 6 r<|bdH hy fun i27 qi27 bi27 hy=>gtH hy fun v28 xv28 hy=>ixP' sl30 qi27 bi27 r r r r<|ldP (f:=(SL 1 I)) tk29 xv28 r r r r r<|go 2 r<|bdH hy fun i29 qi29 bi29 hy=>gtH hy fun v30 xv30 hy=>ixP' sl30 qi29 bi29 r r r r<|ldP (f:=(SL 1 I)) tk29 xv30 r r r r r<|bdH hy fun i31 qi31 bi31 hy=>gtH hy fun v32 xv32 hy=>ixP' sl30 qi31 bi31 r r r r<|stP (f:=(SL 1 I)) (v28) tk29 xv32 r r r r r r<|bdH hy fun i33 qi33 bi33 hy=>gtH hy fun v34 xv34 hy=>ixP' sl30 qi33 bi33 r r r r<|stP (f:=(SL 1 I)) (v30) tk29 xv34 r r r r r r<|dn ⟨by kernel_rfl,?_⟩
    refine rg r<|rg r<|bkH hy fun o5 hy k5 hk5 hc5=>meetD [1] [] r r (fun (p:Int × (List (List Int)))=>match p with | (v13_11,l0_11)=>([(0,.own 0 0 1 0 (l0_11).length false),(13,(I v13_11))],[(0,some (0,.buf 1 (l0_11.map (SL 1 I))))],k5 (v13_11,l0_11)=some y)) ?_ ?_
    ·skip
     refine at_block<|loopD [1,4] [] r r (fun (p:Nat × Int × Int × (List (List Int)))=>match p with | (n6,v12_10,v13_10,l0_10)=>([(0,.own 0 0 1 0 (l0_10).length false),(12,(I v12_10)),(13,(I v13_10))],[(0,some (0,.buf 1 (l0_10.map (SL 1 I))))],p_bv K a1 a4 n6 v12_10 v13_10 l0_10=some o5)) (K,(w64 (v12_2+1)),(w64 (v13_4 - 1)),((l0_2.set i31 v28).set i33 v30)) (.k r (by simp) (.j r (.j r .nil))) (hk r) hy<|?_
     rintro ⟨n6,v12_10,v13_10,l0_10⟩ cl hy
     obtain _ | n6:=n6;· cases hy
     refine nf r r<|?_
     replace hy:_=some _:=hy
     rw [p_bv] at hy
     refine bkH hy fun o7 hy k7 hk7 hc7=>meetE [1,4] [] r r (fun (p:Int × Int × (List (List Int)))=>match p with | (v12_9,v13_9,l0_9)=>([(0,.own 0 0 1 0 (l0_9).length false),(12,(I v12_9)),(13,(I v13_9))],[(0,some (0,.buf 1 (l0_9.map (SL 1 I))))],k7 (.inl (v12_9,v13_9,l0_9))=some o5)) ?_ ?_
     ·skip
      refine at_block<|bkH hy fun o8 hy k8 hk8 hc8=>meetD [0,1,4,13] [0] r r (fun (p:Int)=>match p with | v12_6=>([(12,(I v12_6))],[],k8 v12_6=some o7)) ?_ ?_
      ·skip
       refine at_block<|loopD [0,1,4,13] [0] r r (fun (p:Nat × Int)=>match p with | (n9,v12_5)=>([(12,(I v12_5))],[],p_bt K v13_10 l0_10 a1 a4 n9 v12_5=some o8)) (K,v12_10) (lk r) .nil hy<|?_
       rintro ⟨n9,v12_5⟩ cl hy
       obtain _ | n9:=n9;· cases hy
       refine nf r r<|?_
       replace hy:_=some _:=hy
       rw [p_bt] at hy
       refine at_seq<|regd mixed 16 r<|go 4 r<|casH 108 r hy (fun hy=>?_) fun hy=>?_
       ·refine go 3 r<|bdH hy fun i35 qi35 bi35 hy=>gtH hy fun v36 xv36 hy=>ixP' sl30 qi35 bi35 r r r r<|ldP (f:=(SL 1 I)) tk29 xv36 r r r r r<|go 2 r<|bdH hy fun i37 qi37 bi37 hy=>gtH hy fun v38 xv38 hy=>ixP' sl30 qi37 bi37 r r r r<|ldP (f:=(SL 1 I)) tk29 xv38 r r r r r<|bndH hy fun r39 qr39 hy=>clv (a4h qr39) a4k r r r r a4l (puL3 a4p (.cons ((pu_l 1 pu_I) _) (.cons ((pu_l 1 pu_I) _) (.nil))) a4q) (.one (pu_I _)) r<|go 2 r<|dn ⟨by kernel_rfl,?_⟩
        refine cdH r hy (fun hy=>?_) fun hy=>?_
        ·refine at_skip<|at_block<|rg1 r<|at_bn<|againD (n9,(w64 (v12_5+1))) (lk r) .nil r r hy r
        ·exact at_exit<|at_te<|at_te<|at_inBlock<|metD v12_5 (lk r) .nil r r (sj2 hy hc8)
       ·refine go 12 r<|dn ⟨by kernel_rfl,?_⟩
        exact cdf r<|at_exit<|at_te<|at_te<|at_inBlock<|metD v12_5 (lk r) .nil r r (sj2 hy hc8)
      ·rintro v12_6 cl hy
       subst hk8
       refine nf r r<|bkH hy fun o10 hy k10 hk10 hc10=>meetD [0,1,4,12] [0] r r (fun (p:Int)=>match p with | v13_8=>([(13,(I v13_8))],[],k10 v13_8=some o7)) ?_ ?_
       ·skip
        refine at_block<|loopD [0,1,4,12] [0] r r (fun (p:Nat × Int)=>match p with | (n11,v13_7)=>([(13,(I v13_7))],[],p_bu K v12_6 l0_10 a1 a4 n11 v13_7=some o10)) (K,v13_10) (lk r) .nil hy<|?_
        rintro ⟨n11,v13_7⟩ cl hy
        obtain _ | n11:=n11;· cases hy
        refine nf r r<|?_
        replace hy:_=some _:=hy
        rw [p_bu] at hy
        refine at_seq<|regd mixed 17 r<|go 4 r<|casH 126 r hy (fun hy=>?_) fun hy=>?_
        ·refine go 3 r<|bdH hy fun i40 qi40 bi40 hy=>gtH hy fun v41 xv41 hy=>ixP' sl30 qi40 bi40 r r r r<|ldP (f:=(SL 1 I)) tk29 xv41 r r r r r<|go 2 r<|bdH hy fun i42 qi42 bi42 hy=>gtH hy fun v43 xv43 hy=>ixP' sl30 qi42 bi42 r r r r<|ldP (f:=(SL 1 I)) tk29 xv43 r r r r r<|bndH hy fun r44 qr44 hy=>clv (a4h qr44) a4k r r r r a4l (puL3 a4p (.cons ((pu_l 1 pu_I) _) (.cons ((pu_l 1 pu_I) _) (.nil))) a4q) (.one (pu_I _)) r<|go 3 r<|dn ⟨by kernel_rfl,?_⟩
         refine cdH r hy (fun hy=>?_) fun hy=>?_
         ·refine at_skip<|at_block<|rg1 r<|at_bn<|againD (n11,(w64 (v13_7 - 1))) (lk r) .nil r r hy r
         ·exact at_exit<|at_te<|at_te<|at_inBlock<|metD v13_7 (lk r) .nil r r (sj2 hy hc10)
        ·refine go 13 r<|dn ⟨by kernel_rfl,?_⟩
         exact cdf r<|at_exit<|at_te<|at_te<|at_inBlock<|metD v13_7 (lk r) .nil r r (sj2 hy hc10)
       ·rintro v13_8 cl hy
        subst hk10
        refine nf r r<|at_seq<|rg r<|cdH r hy (fun hy=>?_) fun hy=>?_
        ·refine at_exit<|at_te<|at_outBlock (by decide)<|at_te<|at_te<|at_inBlock<|?_
         obtain rfl:=sj hy
         subst hk7
         replace hy:=hc7
         exact metD (v13_8,l0_10) (lk r) (hk r) r r (sj2 hy hc5)
        ·refine at_skip<|regd mixed 16 r<|go 6 r<|bdH hy fun i45 qi45 bi45 hy=>gtH hy fun v46 xv46 hy=>ixP' sl30 qi45 bi45 r r r r<|ldP (f:=(SL 1 I)) tk29 xv46 r r r r r<|go 2 r<|bdH hy fun i47 qi47 bi47 hy=>gtH hy fun v48 xv48 hy=>ixP' sl30 qi47 bi47 r r r r<|ldP (f:=(SL 1 I)) tk29 xv48 r r r r r<|bdH hy fun i49 qi49 bi49 hy=>gtH hy fun v50 xv50 hy=>ixP' sl30 qi49 bi49 r r r r<|stP (f:=(SL 1 I)) (v46) tk29 xv50 r r r r r r<|bdH hy fun i51 qi51 bi51 hy=>gtH hy fun v52 xv52 hy=>ixP' sl30 qi51 bi51 r r r r<|stP (f:=(SL 1 I)) (v48) tk29 xv52 r r r r r r<|dn ⟨by kernel_rfl,?_⟩
         exact rg r<|rg1 r<|at_bn<|metD ((w64 (v12_6+1)),(w64 (v13_8 - 1)),((l0_10.set i49 v46).set i51 v48)) (.k r (by simp) (.j r (.j r .nil))) (hk r) r r (sj2 hy hc7)
     ·rintro ⟨v12_9,v13_9,l0_9⟩ cl hy
      subst hk7
      refine nf r r<|againD (n6,v12_9,v13_9,l0_9) (lk r) (hk r) r r hy r
    ·rintro ⟨v13_11,l0_11⟩ cl hy
     subst hk5
     refine nf r r<|regd mixed 16 r<|go 6 r<|bdH hy fun i53 qi53 bi53 hy=>gtH hy fun v54 xv54 hy=>ixP' sl30 qi53 bi53 r r r r<|ldP (f:=(SL 1 I)) tk29 xv54 r r r r r<|go 2 r<|bdH hy fun i55 qi55 bi55 hy=>gtH hy fun v56 xv56 hy=>ixP' sl30 qi55 bi55 r r r r<|ldP (f:=(SL 1 I)) tk29 xv56 r r r r r<|bdH hy fun i57 qi57 bi57 hy=>gtH hy fun v58 xv58 hy=>ixP' sl30 qi57 bi57 r r r r<|stP (f:=(SL 1 I)) (v54) tk29 xv58 r r r r r r<|bdH hy fun i59 qi59 bi59 hy=>gtH hy fun v60 xv60 hy=>ixP' sl30 qi59 bi59 r r r r<|stP (f:=(SL 1 I)) (v56) tk29 xv60 r r r r r r<|dn ⟨by kernel_rfl,?_⟩
     refine rg r<|at_ret<|?_
     obtain rfl:=sj hy
     exact outOs (g1:=(SL 1 I)) (rs:=[10,11]) (res2 r) (by simp) (.inl r) (looks_of r) r r (pu_l 1 pu_I) (.cons (pu_I _) (.cons (pu_B _) (.nil)))
def p_T (K:Nat) (v12_6:Int) (l0_6:(List (List Int))) (a1:Int) (a4:((List Int)→(List Int)→Option Int)):Nat→Int→Option Int
 | 0,_=>none
 | n+1,v11_1=>(bif (decide (v11_1≤v12_6)) then (bdP l0_6.length a1 fun i9=>gtP l0_6 i9 fun v10=>(bdP l0_6.length v11_1 fun i11=>gtP l0_6 i11 fun v12=>((a4 v10 v12).bind fun r13=>(bif (!(decide (r13 < 0))) then p_T K v12_6 l0_6 a1 a4 n (w64 (v11_1+1)) else some v11_1)))) else some v11_1)
def p_U (K:Nat) (v11_2:Int) (l0_6:(List (List Int))) (a1:Int) (a4:((List Int)→(List Int)→Option Int)):Nat→Int→Option Int
 | 0,_=>none
 | n+1,v12_3=>(bif (decide (v11_2≤v12_3)) then (bdP l0_6.length a1 fun i14=>gtP l0_6 i14 fun v15=>(bdP l0_6.length v12_3 fun i16=>gtP l0_6 i16 fun v17=>((a4 v15 v17).bind fun r18=>(bif (decide (r18 < 0)) then p_U K v11_2 l0_6 a1 a4 n (w64 (v12_3 - 1)) else some v12_3)))) else some v12_3)
def p_V (K:Nat) (a1:Int) (a4:((List Int)→(List Int)→Option Int)):Nat→Int→Int→(List (List Int))→Option (Int × (List (List Int)))
 | 0,_,_,_=>none
 | n+1,v11_6,v12_6,l0_6=>((((p_T K v12_6 l0_6 a1 a4 K v11_6:Option Int).bind fun v11_2=>((p_U K v11_2 l0_6 a1 a4 K v12_6:Option Int).bind fun v12_4=>(bif (decide (v11_2 > v12_4)) then some (.inr (v11_2,l0_6)) else (bdP l0_6.length v12_4 fun i19=>gtP l0_6 i19 fun v20=>(bdP l0_6.length v11_2 fun i21=>gtP l0_6 i21 fun v22=>(bdP l0_6.length v11_2 fun i23=>gtP l0_6 i23 fun v24=>(bdP l0_6.length v12_4 fun i25=>gtP (l0_6.set i23 v20) i25 fun v26=>some (.inl ((w64 (v11_2+1)),(w64 (v12_4 - 1)),((l0_6.set i23 v20).set i25 v22)))))))))):Option (Sum (Int × Int × (List (List Int))) (Int × (List (List Int))))).bind fun | .inl (v11_5,v12_5,l0_5)=>p_V K a1 a4 n v11_5 v12_5 l0_5 | .inr r=>some r)
def p_b7 (K:Nat) (a0:(List (List Int))) (a1:Int) (a2:Int) (a3:Int) (a4:((List Int)→(List Int)→Option Int)):Option (Int × (List (List Int))) :=
 (bdP a0.length a3 fun i1=>gtP a0 i1 fun v2=>(bdP a0.length a1 fun i3=>gtP a0 i3 fun v4=>(bdP a0.length a1 fun i5=>gtP a0 i5 fun v6=>(bdP a0.length a3 fun i7=>gtP (a0.set i5 v2) i7 fun v8=>((p_V K a1 a4 K (w64 (a1+1)) (w64 (a2 - 1)) ((a0.set i5 v2).set i7 v4):Option (Int × (List (List Int)))).bind fun (v11_7,l0_7)=>some (v11_7,l0_7))))))
theorem w_eO {K:Nat}{a0:(List (List Int))}{a1:Int}{a2:Int}{a3:Int}{a4:((List Int)→(List Int)→Option Int)}{y:(Int × (List (List Int)))}{a4f:FuncId}{a4s a4c:List AV} (a4h:∀ {x0:(List Int)}{x1:(List Int)}{r:Int},a4 x0 x1=some r→Does PP GV a4f [] (a4s++[((SL 1 I) x0),((SL 1 I) x1)]++a4c) [] [] (I r)) (a4k:callable PP a4f=true) (a4l:a4s.all flat=true∧a4c.all flat=true) (a4p:PuL a4s) (a4q:PuL a4c) (hy:p_b7 K a0 a1 a2 a3 a4=some y):Does PP GV 154 [.buf 1 (a0.map (SL 1 I))] [.own 0 0 1 0 a0.length false,(I a1),(I a2),(I a3),.fn (.func a4f) a4s a4c] [0] [.buf 1 (y.2.map (SL 1 I))] (I y.1):=by
 unfold p_b7 at hy
 refine does_of at154 r (le_ok r)<|?_
 rintro ⟨_,base,w0,F⟩ rfl
 refine rg r<|regd mixed 16 r<|go 6 r<|bdH hy fun i1 qi1 bi1 hy=>gtH hy fun v2 xv2 hy=>ixP' sl30 qi1 bi1 r r r r<|ldP (f:=(SL 1 I)) tk29 xv2 r r r r r<|go 2 r<|bdH hy fun i3 qi3 bi3 hy=>gtH hy fun v4 xv4 hy=>ixP' sl30 qi3 bi3 r r r r<|ldP (f:=(SL 1 I)) tk29 xv4 r r r r r<|bdH hy fun i5 qi5 bi5 hy=>gtH hy fun v6 xv6 hy=>ixP' sl30 qi5 bi5 r r r r<|stP (f:=(SL 1 I)) (v2) tk29 xv6 r r r r r r<|bdH hy fun i7 qi7 bi7 hy=>gtH hy fun v8 xv8 hy=>ixP' sl30 qi7 bi7 r r r r<|stP (f:=(SL 1 I)) (v4) tk29 xv8 r r r r r r<|dn ⟨by kernel_rfl,?_⟩
 refine rg r<|bkH hy fun o1 hy k1 hk1 hc1=>meetD [] [] r r (fun (p:Int × (List (List Int)))=>match p with | (v11_7,l0_7)=>([(0,.own 0 0 1 0 (l0_7).length false),(11,(I v11_7))],[(0,some (0,.buf 1 (l0_7.map (SL 1 I))))],k1 (v11_7,l0_7)=some y)) ?_ ?_
 ·skip
  refine at_block<|loopD [1,4] [] r r (fun (p:Nat × Int × Int × (List (List Int)))=>match p with | (n2,v11_6,v12_6,l0_6)=>([(0,.own 0 0 1 0 (l0_6).length false),(11,(I v11_6)),(12,(I v12_6))],[(0,some (0,.buf 1 (l0_6.map (SL 1 I))))],p_V K a1 a4 n2 v11_6 v12_6 l0_6=some o1)) (K,(w64 (a1+1)),(w64 (a2 - 1)),((a0.set i5 v2).set i7 v4)) (.k r (by simp) (.j r (.j r .nil))) (hk r) hy<|?_
  rintro ⟨n2,v11_6,v12_6,l0_6⟩ cl hy
  obtain _ | n2:=n2;· cases hy
  refine nf r r<|?_
  replace hy:_=some _:=hy
  rw [p_V] at hy
  refine bkH hy fun o3 hy k3 hk3 hc3=>meetE [1,4] [] r r (fun (p:Int × Int × (List (List Int)))=>match p with | (v11_5,v12_5,l0_5)=>([(0,.own 0 0 1 0 (l0_5).length false),(11,(I v11_5)),(12,(I v12_5))],[(0,some (0,.buf 1 (l0_5.map (SL 1 I))))],k3 (.inl (v11_5,v12_5,l0_5))=some o1)) ?_ ?_
  ·skip
   refine at_block<|bkH hy fun o4 hy k4 hk4 hc4=>meetD [0,1,4,12] [0] r r (fun (p:Int)=>match p with | v11_2=>([(11,(I v11_2))],[],k4 v11_2=some o3)) ?_ ?_
   ·skip
    refine at_block<|loopD [0,1,4,12] [0] r r (fun (p:Nat × Int)=>match p with | (n5,v11_1)=>([(11,(I v11_1))],[],p_T K v12_6 l0_6 a1 a4 n5 v11_1=some o4)) (K,v11_6) (lk r) .nil hy<|?_
    rintro ⟨n5,v11_1⟩ cl hy
    obtain _ | n5:=n5;· cases hy
    refine nf r r<|?_
    replace hy:_=some _:=hy
    rw [p_T] at hy
    refine at_seq<|regd mixed 17 r<|go 4 r<|casH 34 r hy (fun hy=>?_) fun hy=>?_
    ·refine go 3 r<|bdH hy fun i9 qi9 bi9 hy=>gtH hy fun v10 xv10 hy=>ixP' sl30 qi9 bi9 r r r r<|ldP (f:=(SL 1 I)) tk29 xv10 r r r r r<|go 2 r<|bdH hy fun i11 qi11 bi11 hy=>gtH hy fun v12 xv12 hy=>ixP' sl30 qi11 bi11 r r r r<|ldP (f:=(SL 1 I)) tk29 xv12 r r r r r<|bndH hy fun r13 qr13 hy=>clv (a4h qr13) a4k r r r r a4l (puL3 a4p (.cons ((pu_l 1 pu_I) _) (.cons ((pu_l 1 pu_I) _) (.nil))) a4q) (.one (pu_I _)) r<|go 3 r<|dn ⟨by kernel_rfl,?_⟩
     refine cdH r hy (fun hy=>?_) fun hy=>?_
     ·refine at_skip<|at_block<|rg1 r<|at_bn<|againD (n5,(w64 (v11_1+1))) (lk r) .nil r r hy r
     ·exact at_exit<|at_te<|at_te<|at_inBlock<|metD v11_1 (lk r) .nil r r (sj2 hy hc4)
    ·refine go 13 r<|dn ⟨by kernel_rfl,?_⟩
     exact cdf r<|at_exit<|at_te<|at_te<|at_inBlock<|metD v11_1 (lk r) .nil r r (sj2 hy hc4)
   ·rintro v11_2 cl hy
    subst hk4
    refine nf r r<|bkH hy fun o6 hy k6 hk6 hc6=>meetD [0,1,4,11] [0] r r (fun (p:Int)=>match p with | v12_4=>([(12,(I v12_4))],[],k6 v12_4=some o3)) ?_ ?_
    ·skip
     refine at_block<|loopD [0,1,4,11] [0] r r (fun (p:Nat × Int)=>match p with | (n7,v12_3)=>([(12,(I v12_3))],[],p_U K v11_2 l0_6 a1 a4 n7 v12_3=some o6)) (K,v12_6) (lk r) .nil hy<|?_
     rintro ⟨n7,v12_3⟩ cl hy
     obtain _ | n7:=n7;· cases hy
     refine nf r r<|?_
     replace hy:_=some _:=hy
     rw [p_U] at hy
     refine at_seq<|regd mixed 16 r<|go 4 r<|casH 53 r hy (fun hy=>?_) fun hy=>?_
     ·refine go 3 r<|bdH hy fun i14 qi14 bi14 hy=>gtH hy fun v15 xv15 hy=>ixP' sl30 qi14 bi14 r r r r<|ldP (f:=(SL 1 I)) tk29 xv15 r r r r r<|go 2 r<|bdH hy fun i16 qi16 bi16 hy=>gtH hy fun v17 xv17 hy=>ixP' sl30 qi16 bi16 r r r r<|ldP (f:=(SL 1 I)) tk29 xv17 r r r r r<|bndH hy fun r18 qr18 hy=>clv (a4h qr18) a4k r r r r a4l (puL3 a4p (.cons ((pu_l 1 pu_I) _) (.cons ((pu_l 1 pu_I) _) (.nil))) a4q) (.one (pu_I _)) r<|go 2 r<|dn ⟨by kernel_rfl,?_⟩
      refine cdH r hy (fun hy=>?_) fun hy=>?_
      ·refine at_skip<|at_block<|rg1 r<|at_bn<|againD (n7,(w64 (v12_3 - 1))) (lk r) .nil r r hy r
      ·exact at_exit<|at_te<|at_te<|at_inBlock<|metD v12_3 (lk r) .nil r r (sj2 hy hc6)
     ·refine go 12 r<|dn ⟨by kernel_rfl,?_⟩
      exact cdf r<|at_exit<|at_te<|at_te<|at_inBlock<|metD v12_3 (lk r) .nil r r (sj2 hy hc6)
    ·rintro v12_4 cl hy
     subst hk6
     refine nf r r<|at_seq<|rg r<|cdH r hy (fun hy=>?_) fun hy=>?_
     ·refine at_exit<|at_te<|at_outBlock (by decide)<|at_te<|at_te<|at_inBlock<|?_
      obtain rfl:=sj hy
      subst hk3
      replace hy:=hc3
      exact metD (v11_2,l0_6) (lk r) (hk r) r r (sj2 hy hc1)
     ·refine at_skip<|regd mixed 16 r<|go 6 r<|bdH hy fun i19 qi19 bi19 hy=>gtH hy fun v20 xv20 hy=>ixP' sl30 qi19 bi19 r r r r<|ldP (f:=(SL 1 I)) tk29 xv20 r r r r r<|go 2 r<|bdH hy fun i21 qi21 bi21 hy=>gtH hy fun v22 xv22 hy=>ixP' sl30 qi21 bi21 r r r r<|ldP (f:=(SL 1 I)) tk29 xv22 r r r r r<|bdH hy fun i23 qi23 bi23 hy=>gtH hy fun v24 xv24 hy=>ixP' sl30 qi23 bi23 r r r r<|stP (f:=(SL 1 I)) (v20) tk29 xv24 r r r r r r<|bdH hy fun i25 qi25 bi25 hy=>gtH hy fun v26 xv26 hy=>ixP' sl30 qi25 bi25 r r r r<|stP (f:=(SL 1 I)) (v22) tk29 xv26 r r r r r r<|dn ⟨by kernel_rfl,?_⟩
      exact rg r<|rg1 r<|at_bn<|metD ((w64 (v11_2+1)),(w64 (v12_4 - 1)),((l0_6.set i23 v20).set i25 v22)) (.k r (by simp) (.j r (.j r .nil))) (hk r) r r (sj2 hy hc3)
  ·rintro ⟨v11_5,v12_5,l0_5⟩ cl hy
   subst hk3
   refine nf r r<|againD (n2,v11_5,v12_5,l0_5) (lk r) (hk r) r r hy r
 ·rintro ⟨v11_7,l0_7⟩ cl hy
  subst hk1
  refine nf r r<|rg r<|at_ret<|?_
  obtain rfl:=sj hy
  exact outO1 (g1:=(SL 1 I)) r (.inl r) r (pu_I _) r (pu_l 1 pu_I)
def p_bf (K:Nat)  : Nat→Int→Int→(List (List Int))→Option (List (List Int))
 | 0,_,_,_=>none
 | n+1,v8_1,v9_1,l0_1=>(bif (decide (v8_1 < v9_1)) then (bdP l0_1.length v9_1 fun i1=>gtP l0_1 i1 fun v2=>(bdP l0_1.length v8_1 fun i3=>gtP l0_1 i3 fun v4=>(bdP l0_1.length v8_1 fun i5=>gtP l0_1 i5 fun v6=>(bdP l0_1.length v9_1 fun i7=>gtP (l0_1.set i5 v2) i7 fun v8=>p_bf K  n (w64 (v8_1+1)) (w64 (v9_1 - 1)) ((l0_1.set i5 v2).set i7 v4))))) else some l0_1)
def p_cm (K:Nat) (a0:(List (List Int))) (a1:Int) (a2:Int) (a3:((List Int)→(List Int)→Option Int)):Option (List (List Int)) :=
 p_bf K  K a1 (w64 (a2 - 1)) a0
theorem w_e0 {K:Nat}{a0:(List (List Int))}{a1:Int}{a2:Int}{a3:((List Int)→(List Int)→Option Int)}{y:(List (List Int))}{a3f:FuncId}{a3s a3c:List AV} (a3h:∀ {x0:(List Int)}{x1:(List Int)}{r:Int},a3 x0 x1=some r→Does PP GV a3f [] (a3s++[((SL 1 I) x0),((SL 1 I) x1)]++a3c) [] [] (I r)) (a3k:callable PP a3f=true) (a3l:a3s.all flat=true∧a3c.all flat=true) (a3p:PuL a3s) (a3q:PuL a3c) (hy:p_cm K a0 a1 a2 a3=some y):Does PP GV 152 [.buf 1 (a0.map (SL 1 I))] [.own 0 0 1 0 a0.length false,(I a1),(I a2),.fn (.func a3f) a3s a3c] [0] [.buf 1 (y.map (SL 1 I))] (.tup []):=by
 unfold p_cm at hy
 refine does_of at152 r (le_ok r)<|?_
 rintro ⟨_,base,w0,F⟩ rfl
 refine rg r<|rg r<|at_block<|loopD [] [] r r (fun (p:Nat × Int × Int × (List (List Int)))=>match p with | (n1,v8_1,v9_1,l0_1)=>([(0,.own 0 0 1 0 (l0_1).length false),(8,(I v8_1)),(9,(I v9_1))],[(0,some (0,.buf 1 (l0_1.map (SL 1 I))))],p_bf K  n1 v8_1 v9_1 l0_1=some y)) (K,a1,(w64 (a2 - 1)),a0) (lk r) (hk r) hy<|?_
 rintro ⟨n1,v8_1,v9_1,l0_1⟩ cl hy
 obtain _ | n1:=n1;· cases hy
 refine nf r r<|?_
 replace hy:_=some _:=hy
 rw [p_bf] at hy
 refine at_seq<|rg r<|cdH r hy (fun hy=>?_) fun hy=>?_
 ·refine at_skip<|at_block<|regd mixed 16 r<|go 6 r<|bdH hy fun i1 qi1 bi1 hy=>gtH hy fun v2 xv2 hy=>ixP' sl30 qi1 bi1 r r r r<|ldP (f:=(SL 1 I)) tk29 xv2 r r r r r<|go 2 r<|bdH hy fun i3 qi3 bi3 hy=>gtH hy fun v4 xv4 hy=>ixP' sl30 qi3 bi3 r r r r<|ldP (f:=(SL 1 I)) tk29 xv4 r r r r r<|bdH hy fun i5 qi5 bi5 hy=>gtH hy fun v6 xv6 hy=>ixP' sl30 qi5 bi5 r r r r<|stP (f:=(SL 1 I)) (v2) tk29 xv6 r r r r r r<|bdH hy fun i7 qi7 bi7 hy=>gtH hy fun v8 xv8 hy=>ixP' sl30 qi7 bi7 r r r r<|stP (f:=(SL 1 I)) (v4) tk29 xv8 r r r r r r<|dn ⟨by kernel_rfl,?_⟩
  refine rg r<|rg1 r<|at_bn<|againD (n1,(w64 (v8_1+1)),(w64 (v9_1 - 1)),((l0_1.set i5 v2).set i7 v4)) (.k r (by simp) (.j r (.j r .nil))) (hk r) r r hy r
 ·refine at_exit<|at_te<|at_te<|at_inBlock<|?_
  obtain rfl:=sj hy
  exact outO0 (g1:=(SL 1 I)) r (.inr r) r (pu_l 1 pu_I)
end Go.Ar
namespace Go.Ar
open Go.RowKit
def p_b (K:Nat) (a4:((List Int)→(List Int)→Option Int)) (rc:(List (List Int))→Int→Int→Int→Option (List (List Int))):Nat→Int→Int→Int→Bool→Bool→(List (List Int))→Option (List (List Int))
 | 0,_,_,_,_,_,_=>none
 | n+1,v1_4,v2_4,v3_4,v10_4,v11_4,l0_4=>(bif (decide ((w64 (v2_4 - v1_4))≤12)) then ((p_O K l0_4 v1_4 v2_4 a4).bind fun r1=>lenP l0_4 r1 (some r1)) else (bif (v3_4 == 0) then ((p_cE K l0_4 v1_4 v2_4 a4).bind fun r2=>lenP l0_4 r2 (some r2)) else (((bif (!v10_4) then ((p_cf K l0_4 v1_4 v2_4 a4).bind fun r3=>lenP l0_4 r3 (some ((w64 (v3_4 - 1)),r3))) else some (v3_4,l0_4)):Option (Int × (List (List Int)))).bind fun (v3_1,l0_1)=>((p_cs K l0_1 v1_4 v2_4 a4).bind fun r4=>(((bif (r4.2 == 2) then ((p_cm K l0_1 v1_4 v2_4 a4).bind fun r5=>lenP l0_1 r5 (some ((w64 ((w64 (v2_4 - 1)) - (w64 (r4.1 - v1_4)))),1,r5))) else some (r4.1,r4.2,l0_1)):Option (Int × Int × (List (List Int)))).bind fun (v13_2,v14_2,l0_2)=>(((bif v10_4 then (bif v11_4 then (bif (v14_2 == 1) then ((p_bw K l0_2 v1_4 v2_4 a4).bind fun r6=>lenP l0_2 r6.2 ((bif r6.1 then some (.inr r6.2) else some (.inl r6.2)))) else some (.inl l0_2)) else some (.inl l0_2)) else some (.inl l0_2)):Option (Sum (List (List Int)) (List (List Int)))).bind fun | .inl l0_3=>(bif (decide (v1_4 > 0)) then (bdP l0_3.length (w64 (v1_4 - 1)) fun i7=>gtP l0_3 i7 fun v8=>(bdP l0_3.length v13_2 fun i9=>gtP l0_3 i9 fun v10=>((a4 v8 v10).bind fun r11=>(bif (!(decide (r11 < 0))) then ((p_b7 K l0_3 v1_4 v2_4 v13_2 a4).bind fun r12=>lenP l0_3 r12.2 (p_b K a4 rc n r12.1 v2_4 v3_1 v10_4 v11_4 r12.2)) else ((p_bS K l0_3 v1_4 v2_4 v13_2 a4).bind fun r13=>lenP l0_3 r13.2.2 ((bif (decide ((w64 (r13.1 - v1_4)) < (w64 (v2_4 - r13.1)))) then ((rc r13.2.2 v1_4 r13.1 v3_1).bind fun r14=>lenP r13.2.2 r14 (p_b K a4 rc n (w64 (r13.1+1)) v2_4 v3_1 (decide ((w64 (r13.1 - v1_4))≥(w64 (Int.tdiv (w64 (v2_4 - v1_4)) 8)))) r13.2.1 r14)) else ((rc r13.2.2 (w64 (r13.1+1)) v2_4 v3_1).bind fun r15=>lenP r13.2.2 r15 (p_b K a4 rc n v1_4 r13.1 v3_1 (decide ((w64 (v2_4 - r13.1))≥(w64 (Int.tdiv (w64 (v2_4 - v1_4)) 8)))) r13.2.1 r15))))))))) else ((p_bS K l0_3 v1_4 v2_4 v13_2 a4).bind fun r16=>lenP l0_3 r16.2.2 ((bif (decide ((w64 (r16.1 - v1_4)) < (w64 (v2_4 - r16.1)))) then ((rc r16.2.2 v1_4 r16.1 v3_1).bind fun r17=>lenP r16.2.2 r17 (p_b K a4 rc n (w64 (r16.1+1)) v2_4 v3_1 (decide ((w64 (r16.1 - v1_4))≥(w64 (Int.tdiv (w64 (v2_4 - v1_4)) 8)))) r16.2.1 r17)) else ((rc r16.2.2 (w64 (r16.1+1)) v2_4 v3_1).bind fun r18=>lenP r16.2.2 r18 (p_b K a4 rc n v1_4 r16.1 v3_1 (decide ((w64 (v2_4 - r16.1))≥(w64 (Int.tdiv (w64 (v2_4 - v1_4)) 8)))) r16.2.1 r18)))))) | .inr r=>some r))))))
def p_bg (K:Nat) (rc:(List (List Int))→Int→Int→Int→Option (List (List Int))) (a0:(List (List Int))) (a1:Int) (a2:Int) (a3:Int) (a4:((List Int)→(List Int)→Option Int)):Option (List (List Int)) :=
 p_b K a4 rc K a1 a2 a3 true true a0
def p_G (K:Nat) (a4:((List Int)→(List Int)→Option Int)):Nat→(List (List Int))→Int→Int→Int→Option (List (List Int))
 | 0,_,_,_,_=>none
 | n+1,a0,a1,a2,a3=>p_bg K (p_G K a4 n) a0 a1 a2 a3 a4
def p_b8 (K:Nat) (a0:(List (List Int))) (a1:Int) (a2:Int) (a3:Int) (a4:((List Int)→(List Int)→Option Int)):Option (List (List Int)):=p_G K a4 K a0 a1 a2 a3
theorem w_fp {K:Nat}{a4:((List Int)→(List Int)→Option Int)}{a4f:FuncId}{a4s a4c:List AV} (a4h:∀ {x0:(List Int)}{x1:(List Int)}{r:Int},a4 x0 x1=some r→Does PP GV a4f [] (a4s++[((SL 1 I) x0),((SL 1 I) x1)]++a4c) [] [] (I r)) (a4k:callable PP a4f=true) (a4l:a4s.all flat=true∧a4c.all flat=true) (a4p:PuL a4s) (a4q:PuL a4c):∀ (n:Nat) {a0:(List (List Int))}{a1:Int}{a2:Int}{a3:Int}{y:(List (List Int))},p_G K a4 n a0 a1 a2 a3=some y→Does PP GV 147 [.buf 1 (a0.map (SL 1 I))] [.own 0 0 1 0 a0.length false,(I a1),(I a2),(I a3),.fn (.func a4f) a4s a4c] [0] [.buf 1 (y.map (SL 1 I))] (.tup []):=by
 intro n
 induction n with
 | zero=>intro a0 a1 a2 a3 y hy;cases hy
 | succ n ih =>
  intro a0 a1 a2 a3 y hy
  replace hy:p_bg K (p_G K a4 n) a0 a1 a2 a3 a4=some y:=hy
  generalize p_G K a4 n=rc at hy ih
  unfold p_bg at hy
  refine does_of at147 r (le_ok r)<|?_
  rintro ⟨_,base,w0,F⟩ rfl
  refine rg r<|rg r<|at_block<|loopD [4] [] r r (fun (p:Nat × Int × Int × Int × Bool × Bool × (List (List Int)))=>match p with | (n1,v1_4,v2_4,v3_4,v10_4,v11_4,l0_4)=>([(0,.own 0 0 1 0 (l0_4).length false),(1,(I v1_4)),(2,(I v2_4)),(3,(I v3_4)),(10,(B v10_4)),(11,(B v11_4))],[(0,some (0,.buf 1 (l0_4.map (SL 1 I))))],p_b K a4 rc n1 v1_4 v2_4 v3_4 v10_4 v11_4 l0_4=some y)) (K,a1,a2,a3,true,true,a0) (lk r) (hk r) hy<|?_
  rintro ⟨n1,v1_4,v2_4,v3_4,v10_4,v11_4,l0_4⟩ cl hy
  obtain _ | n1:=n1;· cases hy
  refine nf r r<|?_
  replace hy:_=some _:=hy
  rw [p_b] at hy
  refine at_block<|rg r<|at_seq<|rg r<|cdH r hy (fun hy=>?_) fun hy=>?_
  ·refine reg 5 r<|go 4 r<|bndH hy fun r1 qr1 hy=>?_
   obtain ⟨tr1,hy⟩:=lenI hy
   refine clo1 (s:=0) (w_eW (a3h:=a4h) (a3k:=a4k) (a3l:=a4l) (a3p:=a4p) (a3q:=a4q) qr1) ca148 r (.tup (.nil)) r r (pu_l 1 pu_I) ?_ r ?_
   ·exact .cons _ _ _ _ (rnOwn (List.Mem.head _) (by first | rfl | simp)) (.cons _ _ _ _ (.pu _ (pu_I _)) (.cons _ _ _ _ (.pu _ (pu_I _)) (.cons _ _ _ _ (.pu _ (pu_fn a4p a4q)) (.nil))))
   refine teq 0 (y:=.own 0 0 1 0 r1.length false) r (by first | (rw [tr1];done) | simp [tr1])<|dn<|at_ret<|?_
   obtain rfl:=sj hy
   exact outO0 (g1:=(SL 1 I)) r (.inl r) r (pu_l 1 pu_I)
  ·refine at_skip<|at_seq<|rg r<|cdH r hy (fun hy=>?_) fun hy=>?_
   ·refine reg 5 r<|go 4 r<|bndH hy fun r2 qr2 hy=>?_
    obtain ⟨tr2,hy⟩:=lenI hy
    refine clo1 (s:=0) (w_fv (a3h:=a4h) (a3k:=a4k) (a3l:=a4l) (a3p:=a4p) (a3q:=a4q) qr2) ca149 r (.tup (.nil)) r r (pu_l 1 pu_I) ?_ r ?_
    ·exact .cons _ _ _ _ (rnOwn (List.Mem.head _) (by first | rfl | simp)) (.cons _ _ _ _ (.pu _ (pu_I _)) (.cons _ _ _ _ (.pu _ (pu_I _)) (.cons _ _ _ _ (.pu _ (pu_fn a4p a4q)) (.nil))))
    refine teq 0 (y:=.own 0 0 1 0 r2.length false) r (by first | (rw [tr2];done) | simp [tr2])<|dn<|at_ret<|?_
    obtain rfl:=sj hy
    exact outO0 (g1:=(SL 1 I)) r (.inl r) r (pu_l 1 pu_I)
   ·refine at_skip<|bkH hy fun o2 hy k2 hk2 hc2=>meetD [1,2,4,10,11,12] [] r r (fun (p:Int × (List (List Int)))=>match p with | (v3_1,l0_1)=>([(0,.own 0 0 1 0 (l0_1).length false),(3,(I v3_1))],[(0,some (0,.buf 1 (l0_1.map (SL 1 I))))],k2 (v3_1,l0_1)=some y)) ?_ ?_
    ·skip
     refine rg r<|cdH r hy (fun hy=>?_) fun hy=>?_
     ·refine reg 5 r<|go 4 r<|bndH hy fun r3 qr3 hy=>?_
      obtain ⟨tr3,hy⟩:=lenI hy
      refine clo1 (s:=0) (w_eV (a3h:=a4h) (a3k:=a4k) (a3l:=a4l) (a3p:=a4p) (a3q:=a4q) qr3) ca150 r (.tup (.nil)) r r (pu_l 1 pu_I) ?_ r ?_
      ·exact .cons _ _ _ _ (rnOwn (List.Mem.head _) (by first | rfl | simp)) (.cons _ _ _ _ (.pu _ (pu_I _)) (.cons _ _ _ _ (.pu _ (pu_I _)) (.cons _ _ _ _ (.pu _ (pu_fn a4p a4q)) (.nil))))
      exact teq 0 (y:=.own 0 0 1 0 r3.length false) r (by first | (rw [tr3];done) | simp [tr3])<|dn<|rg1 r<|metD ((w64 (v3_4 - 1)),r3) (lk r) (hk r) r r (sj2 hy hc2)
     ·exact at_skip<|metD (v3_4,l0_4) (lk r) (hk r) r r (sj2 hy hc2)
    ·rintro ⟨v3_1,l0_1⟩ cl hy
     subst hk2
     refine nf r r<|reg 10 r<|go 4 r<|bndH hy fun r4 qr4 hy=>clo1 (g1:=(SL 1 I)) (l:=l0_1) (l':=l0_1) (s:=0) (ys:=[.own 0 0 1 0 l0_1.length false,_,_,_]) (lend (w_fi (a3h:=a4h) (a3k:=a4k) (a3l:=a4l) (a3p:=a4p) (a3q:=a4q) qr4) (.cons _ _ _ _ (rn_own (List.Mem.head _) (pu_map (pu_l 1 pu_I) _) (by simp)) (.cons _ _ _ _ (.pu _ (pu_I _)) (.cons _ _ _ _ (.pu _ (pu_I _)) (.cons _ _ _ _ (.pu _ (pu_fn a4p a4q)) (.nil))))) (sc_t (xs:=[.int .i64 r4.1,.int .i64 r4.2]))) ca151 r (.tup (.cons (pu_I _) (.cons (pu_I _) (.nil)))) r r (pu_l 1 pu_I) ?_ r ?_
     ·exact .cons _ _ _ _ (rnOwn (List.Mem.head _) (by first | rfl | simp)) (.cons _ _ _ _ (.pu _ (pu_I _)) (.cons _ _ _ _ (.pu _ (pu_I _)) (.cons _ _ _ _ (.pu _ (pu_fn a4p a4q)) (.nil))))
     refine go 5 r<|dn<|bkH hy fun o3 hy k3 hk3 hc3=>meetD [1,2,3,4,10,11,12] [] r r (fun (p:Int × Int × (List (List Int)))=>match p with | (v13_2,v14_2,l0_2)=>([(0,.own 0 0 1 0 (l0_2).length false),(13,(I v13_2)),(14,(I v14_2))],[(0,some (0,.buf 1 (l0_2.map (SL 1 I))))],k3 (v13_2,v14_2,l0_2)=some y)) ?_ ?_
     ·skip
      refine rg r<|cdH r hy (fun hy=>?_) fun hy=>?_
      ·refine reg 5 r<|go 4 r<|bndH hy fun r5 qr5 hy=>?_
       obtain ⟨tr5,hy⟩:=lenI hy
       refine clo1 (s:=0) (w_e0 (a3h:=a4h) (a3k:=a4k) (a3l:=a4l) (a3p:=a4p) (a3q:=a4q) qr5) ca152 r (.tup (.nil)) r r (pu_l 1 pu_I) ?_ r ?_
       ·exact .cons _ _ _ _ (rnOwn (List.Mem.head _) (by first | rfl | simp)) (.cons _ _ _ _ (.pu _ (pu_I _)) (.cons _ _ _ _ (.pu _ (pu_I _)) (.cons _ _ _ _ (.pu _ (pu_fn a4p a4q)) (.nil))))
       exact teq 0 (y:=.own 0 0 1 0 r5.length false) r (by first | (rw [tr5];done) | simp [tr5])<|dn<|rg r<|rg1 r<|metD ((w64 ((w64 (v2_4 - 1)) - (w64 (r4.1 - v1_4)))),1,r5) (lk r) (hk r) r r (sj2 hy hc3)
      ·exact at_skip<|metD (r4.1,r4.2,l0_1) (lk r) (hk r) r r (sj2 hy hc3)
     ·rintro ⟨v13_2,v14_2,l0_2⟩ cl hy
      subst hk3
      refine nf r r<|bkH hy fun o4 hy k4 hk4 hc4=>meetD [1,2,3,4,10,11,12,13] [] r r (fun (p:(List (List Int)))=>match p with | l0_3=>([(0,.own 0 0 1 0 (l0_3).length false)],[(0,some (0,.buf 1 (l0_3.map (SL 1 I))))],k4 (.inl l0_3)=some y)) ?_ ?_
      ·skip
       refine reg 8 r<|go 2 r<|casH 69 r hy (fun hy=>?_) fun hy=>?_
       ·refine go 3 r<|casH 72 r hy (fun hy=>?_) fun hy=>?_
        ·refine go 3 r<|dn<|cdH r hy (fun hy=>?_) fun hy=>?_
         ·refine reg 5 r<|go 4 r<|bndH hy fun r6 qr6 hy=>?_
          obtain ⟨tr6,hy⟩:=lenI hy
          refine clo1 (s:=0) (w_eb (a3h:=a4h) (a3k:=a4k) (a3l:=a4l) (a3p:=a4p) (a3q:=a4q) qr6) ca153 r (.one (pu_B _)) r r (pu_l 1 pu_I) ?_ r ?_
          ·exact .cons _ _ _ _ (rnOwn (List.Mem.head _) (by first | rfl | simp)) (.cons _ _ _ _ (.pu _ (pu_I _)) (.cons _ _ _ _ (.pu _ (pu_I _)) (.cons _ _ _ _ (.pu _ (pu_fn a4p a4q)) (.nil))))
          refine teq 0 (y:=.own 0 0 1 0 r6.2.length false) r (by first | (rw [tr6];done) | simp [tr6])<|dn<|cdH r hy (fun hy=>?_) fun hy=>?_
          ·refine at_ret<|?_
           obtain rfl:=sj hy
           subst hk4;obtain rfl:=sj hc4
           exact outO0 (g1:=(SL 1 I)) r (.inl r) r (pu_l 1 pu_I)
          ·exact at_skip<|metD r6.2 (lk r) (hk r) r r (sj2 hy hc4)
         ·exact at_skip<|metD l0_2 (lk r) (hk r) r r (sj2 hy hc4)
        ·exact go 3 r<|dn<|cdf r<|at_skip<|metD l0_2 (lk r) (hk r) r r (sj2 hy hc4)
       ·exact go 6 r<|dn<|cdf r<|at_skip<|metD l0_2 (lk r) (hk r) r r (sj2 hy hc4)
      ·rintro l0_3 cl hy
       subst hk4
       refine nf r r<|at_seq<|regd mixed 17 r<|go 3 r<|casH 83 r hy (fun hy=>?_) fun hy=>?_
       ·refine go 4 r<|bdH hy fun i7 qi7 bi7 hy=>gtH hy fun v8 xv8 hy=>ixP' sl30 qi7 bi7 r r r r<|ldP (f:=(SL 1 I)) tk29 xv8 r r r r r<|go 2 r<|bdH hy fun i9 qi9 bi9 hy=>gtH hy fun v10 xv10 hy=>ixP' sl30 qi9 bi9 r r r r<|ldP (f:=(SL 1 I)) tk29 xv10 r r r r r<|bndH hy fun r11 qr11 hy=>clv (a4h qr11) a4k r r r r a4l (puL3 a4p (.cons ((pu_l 1 pu_I) _) (.cons ((pu_l 1 pu_I) _) (.nil))) a4q) (.one (pu_I _)) r<|go 3 r<|dn ⟨by kernel_rfl,?_⟩
        refine cdH r hy (fun hy=>?_) fun hy=>?_
        ·refine reg 7 r<|go 5 r<|bndH hy fun r12 qr12 hy=>?_
         obtain ⟨tr12,hy⟩:=lenI hy
         refine clo1 (s:=0) (w_eO (a4h:=a4h) (a4k:=a4k) (a4l:=a4l) (a4p:=a4p) (a4q:=a4q) qr12) ca154 r (.one (pu_I _)) r r (pu_l 1 pu_I) ?_ r ?_
         ·exact .cons _ _ _ _ (rnOwn (List.Mem.head _) (by first | rfl | simp)) (.cons _ _ _ _ (.pu _ (pu_I _)) (.cons _ _ _ _ (.pu _ (pu_I _)) (.cons _ _ _ _ (.pu _ (pu_I _)) (.cons _ _ _ _ (.pu _ (pu_fn a4p a4q)) (.nil)))))
         refine teq 0 (y:=.own 0 0 1 0 r12.2.length false) r (by first | (rw [tr12];done) | simp [tr12])<|go 1 r<|dn<|rg r<|at_exit<|at_te<|at_inBlock<|againD (n1,r12.1,v2_4,v3_1,v10_4,v11_4,r12.2) (lk r) (hk r) r r hy r
        ·refine at_skip<|reg 11 r<|go 5 r<|bndH hy fun r13 qr13 hy=>?_
         obtain ⟨tr13,hy⟩:=lenI hy
         refine clo1 (s:=0) (w_dP (a4h:=a4h) (a4k:=a4k) (a4l:=a4l) (a4p:=a4p) (a4q:=a4q) qr13) ca155 r (.tup (.cons (pu_I _) (.cons (pu_B _) (.nil)))) r r (pu_l 1 pu_I) ?_ r ?_
         ·exact .cons _ _ _ _ (rnOwn (List.Mem.head _) (by first | rfl | simp)) (.cons _ _ _ _ (.pu _ (pu_I _)) (.cons _ _ _ _ (.pu _ (pu_I _)) (.cons _ _ _ _ (.pu _ (pu_I _)) (.cons _ _ _ _ (.pu _ (pu_fn a4p a4q)) (.nil)))))
         refine teq 0 (y:=.own 0 0 1 0 r13.2.2.length false) r (by first | (rw [tr13];done) | simp [tr13])<|go 5 r<|dn<|rg r<|rg r<|reg 3 r<|go 1 r<|dv r r r r (by decide)<|go 1 r<|dn<|rg r<|cdH r hy (fun hy=>?_) fun hy=>?_
         ·refine rg r<|reg 6 r<|go 5 r<|bndH hy fun r14 qr14 hy=>?_
          obtain ⟨tr14,hy⟩:=lenI hy
          refine clo1 (s:=0) (ih qr14) ca147 r (.tup (.nil)) r r (pu_l 1 pu_I) ?_ r ?_
          ·exact .cons _ _ _ _ (rnOwn (List.Mem.head _) (by first | rfl | simp)) (.cons _ _ _ _ (.pu _ (pu_I _)) (.cons _ _ _ _ (.pu _ (pu_I _)) (.cons _ _ _ _ (.pu _ (pu_I _)) (.cons _ _ _ _ (.pu _ (pu_fn a4p a4q)) (.nil)))))
          refine teq 0 (y:=.own 0 0 1 0 r14.length false) r (by first | (rw [tr14];done) | simp [tr14])<|dn<|rg1 r<|at_bn<|againD (n1,(w64 (r13.1+1)),v2_4,v3_1,(decide ((w64 (r13.1 - v1_4))≥(w64 (Int.tdiv (w64 (v2_4 - v1_4)) 8)))),r13.2.1,r14) (lk r) (hk r) r r hy r
         ·refine rg r<|reg 7 r<|go 6 r<|bndH hy fun r15 qr15 hy=>?_
          obtain ⟨tr15,hy⟩:=lenI hy
          refine clo1 (s:=0) (ih qr15) ca147 r (.tup (.nil)) r r (pu_l 1 pu_I) ?_ r ?_
          ·exact .cons _ _ _ _ (rnOwn (List.Mem.head _) (by first | rfl | simp)) (.cons _ _ _ _ (.pu _ (pu_I _)) (.cons _ _ _ _ (.pu _ (pu_I _)) (.cons _ _ _ _ (.pu _ (pu_I _)) (.cons _ _ _ _ (.pu _ (pu_fn a4p a4q)) (.nil)))))
          refine teq 0 (y:=.own 0 0 1 0 r15.length false) r (by first | (rw [tr15];done) | simp [tr15])<|dn<|rg1 r<|at_bn<|againD (n1,v1_4,r13.1,v3_1,(decide ((w64 (v2_4 - r13.1))≥(w64 (Int.tdiv (w64 (v2_4 - v1_4)) 8)))),r13.2.1,r15) (lk r) (hk r) r r hy r
       ·refine go 14 r<|dn ⟨by kernel_rfl,?_⟩
        refine cdf r<|at_skip<|reg 11 r<|go 5 r<|bndH hy fun r16 qr16 hy=>?_
        obtain ⟨tr16,hy⟩:=lenI hy
        refine clo1 (s:=0) (w_dP (a4h:=a4h) (a4k:=a4k) (a4l:=a4l) (a4p:=a4p) (a4q:=a4q) qr16) ca155 r (.tup (.cons (pu_I _) (.cons (pu_B _) (.nil)))) r r (pu_l 1 pu_I) ?_ r ?_
        ·exact .cons _ _ _ _ (rnOwn (List.Mem.head _) (by first | rfl | simp)) (.cons _ _ _ _ (.pu _ (pu_I _)) (.cons _ _ _ _ (.pu _ (pu_I _)) (.cons _ _ _ _ (.pu _ (pu_I _)) (.cons _ _ _ _ (.pu _ (pu_fn a4p a4q)) (.nil)))))
        refine teq 0 (y:=.own 0 0 1 0 r16.2.2.length false) r (by first | (rw [tr16];done) | simp [tr16])<|go 5 r<|dn<|rg r<|rg r<|reg 3 r<|go 1 r<|dv r r r r (by decide)<|go 1 r<|dn<|rg r<|cdH r hy (fun hy=>?_) fun hy=>?_
        ·refine rg r<|reg 6 r<|go 5 r<|bndH hy fun r17 qr17 hy=>?_
         obtain ⟨tr17,hy⟩:=lenI hy
         refine clo1 (s:=0) (ih qr17) ca147 r (.tup (.nil)) r r (pu_l 1 pu_I) ?_ r ?_
         ·exact .cons _ _ _ _ (rnOwn (List.Mem.head _) (by first | rfl | simp)) (.cons _ _ _ _ (.pu _ (pu_I _)) (.cons _ _ _ _ (.pu _ (pu_I _)) (.cons _ _ _ _ (.pu _ (pu_I _)) (.cons _ _ _ _ (.pu _ (pu_fn a4p a4q)) (.nil)))))
         refine teq 0 (y:=.own 0 0 1 0 r17.length false) r (by first | (rw [tr17];done) | simp [tr17])<|dn<|rg1 r<|at_bn<|againD (n1,(w64 (r16.1+1)),v2_4,v3_1,(decide ((w64 (r16.1 - v1_4))≥(w64 (Int.tdiv (w64 (v2_4 - v1_4)) 8)))),r16.2.1,r17) (lk r) (hk r) r r hy r
        ·refine rg r<|reg 7 r<|go 6 r<|bndH hy fun r18 qr18 hy=>?_
         obtain ⟨tr18,hy⟩:=lenI hy
         refine clo1 (s:=0) (ih qr18) ca147 r (.tup (.nil)) r r (pu_l 1 pu_I) ?_ r ?_
         ·exact .cons _ _ _ _ (rnOwn (List.Mem.head _) (by first | rfl | simp)) (.cons _ _ _ _ (.pu _ (pu_I _)) (.cons _ _ _ _ (.pu _ (pu_I _)) (.cons _ _ _ _ (.pu _ (pu_I _)) (.cons _ _ _ _ (.pu _ (pu_fn a4p a4q)) (.nil)))))
         refine teq 0 (y:=.own 0 0 1 0 r18.length false) r (by first | (rw [tr18];done) | simp [tr18])<|dn<|rg1 r<|at_bn<|againD (n1,v1_4,r16.1,v3_1,(decide ((w64 (v2_4 - r16.1))≥(w64 (Int.tdiv (w64 (v2_4 - v1_4)) 8)))),r16.2.1,r18) (lk r) (hk r) r r hy r
theorem w_fx {K:Nat}{a0:(List (List Int))}{a1:Int}{a2:Int}{a3:Int}{a4:((List Int)→(List Int)→Option Int)}{y:(List (List Int))}{a4f:FuncId}{a4s a4c:List AV} (a4h:∀ {x0:(List Int)}{x1:(List Int)}{r:Int},a4 x0 x1=some r→Does PP GV a4f [] (a4s++[((SL 1 I) x0),((SL 1 I) x1)]++a4c) [] [] (I r)) (a4k:callable PP a4f=true) (a4l:a4s.all flat=true∧a4c.all flat=true) (a4p:PuL a4s) (a4q:PuL a4c) (hy:p_b8 K a0 a1 a2 a3 a4=some y):Does PP GV 147 [.buf 1 (a0.map (SL 1 I))] [.own 0 0 1 0 a0.length false,(I a1),(I a2),(I a3),.fn (.func a4f) a4s a4c] [0] [.buf 1 (y.map (SL 1 I))] (.tup []):=w_fp a4h a4k a4l a4p a4q K hy
def p_bo (K:Nat) (a0:(List (List Int))) (a1:((List Int)→(List Int)→Option Int)):Option (List (List Int)) :=
 ((p_bp K (IntKind.u64.wrap (a0.length:Int))).bind fun r1=>((p_b8 K a0 0 (a0.length:Int) r1 a1).bind fun r2=>lenP a0 r2 (some r2)))
theorem w_fy {K:Nat}{a0:(List (List Int))}{a1:((List Int)→(List Int)→Option Int)}{y:(List (List Int))}{a1f:FuncId}{a1s a1c:List AV} (a1h:∀ {x0:(List Int)}{x1:(List Int)}{r:Int},a1 x0 x1=some r→Does PP GV a1f [] (a1s++[((SL 1 I) x0),((SL 1 I) x1)]++a1c) [] [] (I r)) (a1k:callable PP a1f=true) (a1l:a1s.all flat=true∧a1c.all flat=true) (a1p:PuL a1s) (a1q:PuL a1c) (hy:p_bo K a0 a1=some y):Does PP GV 145 [.buf 1 (a0.map (SL 1 I))] [.own 0 0 1 0 a0.length false,.fn (.func a1f) a1s a1c] [0] [.buf 1 (y.map (SL 1 I))] (.tup []):=by
 unfold p_bo at hy
 refine does_of at145 r (le_ok r)<|?_
 rintro ⟨_,base,w0,F⟩ rfl
 refine reg 3 r<|go 1 r<|lno slB30 r r r<|go 1 r<|dn<|reg1 7 r<|go 3 r<|rg_conv (gd_of r) (ev_of r) us3 ui76 (lt_ok r)<|bndH hy fun r1 qr1 hy=>clc (w_eA qr1) ca84 r r r<|go 1 r<|bndH hy fun r2 qr2 hy=>?_
 obtain ⟨tr2,hy⟩:=lenI hy
 refine clo1 (s:=0) (w_fx (a4h:=a1h) (a4k:=a1k) (a4l:=a1l) (a4p:=a1p) (a4q:=a1q) qr2) ca147 r (.tup (.nil)) r r (pu_l 1 pu_I) ?_ r ?_
 ·exact .cons _ _ _ _ (rnOwn (List.Mem.head _) (by first | rfl | simp)) (.cons _ _ _ _ (.pu _ (pu_I _)) (.cons _ _ _ _ (.pu _ (pu_I _)) (.cons _ _ _ _ (.pu _ (pu_I _)) (.cons _ _ _ _ (.pu _ (pu_fn a1p a1q)) (.nil)))))
 refine teq 0 (y:=.own 0 0 1 0 r2.length false) r (by first | (rw [tr2];done) | simp [tr2])<|dn<|?_
 obtain rfl:=sj hy
 exact outO0 (g1:=(SL 1 I)) r (.inr r) r (pu_l 1 pu_I)
def p_b9 (K:Nat) (a0:Fo) (a1:(List Int)):Nat→Int→(List (List Int))→Option (List (List Int))
 | 0,_,_=>none
 | n+1,v15_1,l1007_1=>(bif (decide (v15_1 < (a0.rings.length:Int))) then (ixP a0.rings v15_1 fun v2=>((p_I K a1 v15_1).bind fun r3=>(bif (!r3) then (apP 24 l1007_1.length [v2].length (p_b9 K a0 a1 n (w64 (v15_1+1)) (l1007_1++[v2]))) else p_b9 K a0 a1 n (w64 (v15_1+1)) l1007_1))) else some l1007_1)
def p_cv (K:Nat) (a2:(List (List Int))):Nat→Int→(List (List Int))→Option (List (List Int))
 | 0,_,_=>none
 | n+1,v31_3,l1007_3=>(bif (decide (v31_3 < (a2.length:Int))) then (ixP a2 v31_3 fun v6=>((p_d1 K v6).bind fun r7=>(apP 24 l1007_3.length [r7].length (p_cv K a2 n (w64 (v31_3+1)) (l1007_3++[r7]))))) else some l1007_3)
def p_e1 (K:Nat) (a0:Fo) (a1:(List Int)) (a2:(List (List Int))):Option Fo :=
 ((p_b9 K a0 a1 K 0 []:Option (List (List Int))).bind fun l1007_2=>((p_cv K a2 K 0 l1007_2:Option (List (List Int))).bind fun l1007_4=>((p_bo K l1007_4 (fun (x0:(List Int)) (x1:(List Int))=>p_b4 K x0 x1)).bind fun r9=>lenP l1007_4 r9 (some (Fo.mk a0.n r9)))))
theorem w_g6 {K:Nat}{a0:Fo}{a1:(List Int)}{a2:(List (List Int))}{y:Fo} (hy:p_e1 K a0 a1 a2=some y):Does PP GV 136 [] [(FoA a0),((SL 1 I) a1),((SL 1 (SL 1 I)) a2)] [] [] (FoA y):=by
 unfold p_e1 at hy
 refine does_of at136 r (le_ok r)<|?_
 rintro ⟨_,base,w0,F⟩ rfl
 refine reg 2 r<|bx 1 r r r r<|rg_alloc (s:=2) (gd_of r) zc81 (elems_one (by rfl)) (lt_ok r)<|dn<|rg r<|bkH hy fun o1 hy k1 hk1 hc1=>meetD [2,3,6] [1,2] r r (fun (p:(List (List Int)) × Nat)=>match p with | (l1007_2,g1007_1)=>([(7,.own 1007 g1007_1 1 0 (l1007_2).length false)],[(1007,some (g1007_1,.buf 1 (l1007_2.map (SL 1 I))))],k1 l1007_2=some y)) ?_ ?_
 ·skip
  refine reg 4 r<|fa fo81_1 r r r<|ld tk30 r r r r r r<|lnf (f:=(SL 1 I)) slB30 r r r<|go 1 r<|dn<|at_block<|niloP ((SL 1 I)) 7 1007 1 r<|loopD [1,2,3,6,13,14] [1,2] r r (fun (p:Nat × Int × (List (List Int)) × Nat)=>match p with | (n2,v15_1,l1007_1,g1007_2)=>([(7,.own 1007 g1007_2 1 0 (l1007_1).length false),(15,(I v15_1))],[(1007,some (g1007_2,.buf 1 (l1007_1.map (SL 1 I))))],p_b9 K a0 a1 n2 v15_1 l1007_1=some o1)) (K,0,[],_) (lk r) (hk r) hy<|?_
  rintro ⟨n2,v15_1,l1007_1,g1007_2⟩ cl hy
  obtain _ | n2:=n2;· cases hy
  refine nf r r<|?_
  replace hy:_=some _:=hy
  rw [p_b9] at hy
  refine rg r<|at_seq<|cdH r hy (fun hy=>?_) fun hy=>?_
  ·refine at_skip<|at_seq<|at_block<|reg 5 r<|go 1 r<|ixH hy fun i1 v2 qi1 xv2 hy=>fixP (f:=(SL 1 I)) sl30 qi1 xv2 r r r r<|fld tk29 r r r r<|go 2 r<|dn<|reg 4 r<|go 2 r<|bndH hy fun r3 qr3 hy=>clc (w_db qr3) ca96 r r r<|go 1 r<|dn<|cdH r hy (fun hy=>?_) fun hy=>?_
   ·refine reg1 5 r<|go 2 r<|bldsP (SL 1 I) ([v2]:List (List Int)) 3 se30 r r r r r r r<|apH hy fun k4a k4b hy=>apoP (f:=(SL 1 I)) (l:=l1007_1) (zs:=[v2]) se30 k4a k4b r r r r r r<|go 1 r<|dn<|at_bn<|rg1 r<|againD (n2,(w64 (v15_1+1)),(l1007_1++[v2]),_) (lk r) (hk r) r r hy r
   ·refine at_skip<|at_bn<|rg1 r<|againD (n2,(w64 (v15_1+1)),l1007_1,_) (lk r) (hk r) r r hy r
  ·exact at_exit<|at_te<|at_te<|at_inBlock<|metD (l1007_1,_) (lk r) (hk r) r r (sj2 hy hc1)
 ·rintro ⟨l1007_2,g1007_1⟩ cl hy
  subst hk1
  refine nf r r<|bkH hy fun o3 hy k3 hk3 hc3=>meetD [3,6] [1,2] r r (fun (p:(List (List Int)) × Nat)=>match p with | (l1007_4,g1007_3)=>([(7,.own 1007 g1007_3 1 0 (l1007_4).length false)],[(1007,some (g1007_3,.buf 1 (l1007_4.map (SL 1 I))))],k3 l1007_4=some y)) ?_ ?_
  ·skip
   refine reg 3 r<|go 1 r<|lnf (f:=(SL 1 I)) slB30 r r r<|go 1 r<|dn<|at_block<|loopD [3,6,29,30] [1,2] r r (fun (p:Nat × Int × (List (List Int)) × Nat)=>match p with | (n4,v31_3,l1007_3,g1007_4)=>([(7,.own 1007 g1007_4 1 0 (l1007_3).length false),(31,(I v31_3))],[(1007,some (g1007_4,.buf 1 (l1007_3.map (SL 1 I))))],p_cv K a2 n4 v31_3 l1007_3=some o3)) (K,0,l1007_2,_) (lk r) (hk r) hy<|?_
   rintro ⟨n4,v31_3,l1007_3,g1007_4⟩ cl hy
   obtain _ | n4:=n4;· cases hy
   refine nf r r<|?_
   replace hy:_=some _:=hy
   rw [p_cv] at hy
   refine rg r<|at_seq<|cdH r hy (fun hy=>?_) fun hy=>?_
   ·refine at_skip<|at_seq<|at_block<|reg 3 r<|ixH hy fun i5 v6 qi5 xv6 hy=>fixP (f:=(SL 1 I)) sl30 qi5 xv6 r r r r<|fld tk29 r r r r<|go 1 r<|dn<|reg1 6 r<|go 2 r<|bndH hy fun r7 qr7 hy=>clc (w_g1 qr7) ca144 r r r<|bldsP (SL 1 I) ([r7]:List (List Int)) 4 se30 r r r r r r r<|apH hy fun k8a k8b hy=>apoP (f:=(SL 1 I)) (l:=l1007_3) (zs:=[r7]) se30 k8a k8b r r r r r r<|go 1 r<|dn<|at_bn<|rg1 r<|againD (n4,(w64 (v31_3+1)),(l1007_3++[r7]),_) (lk r) (hk r) r r hy r
   ·exact at_exit<|at_te<|at_te<|at_inBlock<|metD (l1007_3,_) (lk r) (hk r) r r (sj2 hy hc3)
  ·rintro ⟨l1007_4,g1007_3⟩ cl hy
   subst hk3
   refine nf r r<|reg 2 r<|go 1 r<|bndH hy fun r9 qr9 hy=>?_
   obtain ⟨tr9,hy⟩:=lenI hy
   refine clo1 (s:=1007) (w_fy (a1h:=fun h=>w_gR h) (a1k:=ca146) (a1l:=⟨r,r⟩) (a1p:=.nil) (a1q:=.nil) qr9) ca145 r (.tup (.nil)) r r (pu_l 1 pu_I) ?_ r ?_
   ·exact .cons _ _ _ _ (rnOwn (List.Mem.head _) (by first | rfl | simp)) (.cons _ _ _ _ (.pu _ (pu_fn (.nil) (.nil))) (.nil))
   refine teq 7 (y:=.own 1007 _ 1 0 r9.length false) r (by first | (rw [tr9];done) | simp [tr9])<|dn<|reg 5 r<|fa fo81_0 r r r<|ld tk3 r r r r r r<|go 1 r<|bld bd81 r r r r<|str tk81 r r r r r r r<|dn<|at_ret<|cellF (f:=(SL 1 I)) (l:=r9) 2 1007 1 r r r (pu_l 1 pu_I) r<|?_
   obtain rfl:=sj hy
   exact cR r (.c r r r tk81 r .nil)
def p_es (K:Nat) (a0:Fo) (a1:Int) (a2:Int):Option (Fo × Int) :=
 ((p_eJ K a0 a1 a2).bind fun r1=>(bif (r1 != 0) then some (a0,r1) else ((p_du K a0 a1).bind fun r2=>((p_du K a0 a2).bind fun r3=>(bif (r2 == r3) then some (a0,5) else (ixP a0.rings r2 fun v5=>((p_er K v5 a1).bind fun r6=>(ixP a0.rings r3 fun v8=>((p_er K v8 a2).bind fun r9=>(slP r6.1 0 1 fun v12=>((p_eN K a0.n a1 a2).bind fun r13=>((p_eN K a0.n a2 a1).bind fun r14=>(slP r6.1 1 r6.1.length fun v17=>((p_bn K [v12,[r13],r9.1,[r14],v17]).bind fun r18=>((p_e1 K a0 [r2,r3] [r18]).bind fun r19=>some (r19,0))))))))))))))))
theorem w_g7 {K:Nat}{a0:Fo}{a1:Int}{a2:Int}{y:(Fo × Int)} (hy:p_es K a0 a1 a2=some y):Does PP GV 113 [] [(FoA a0),(I a1),(I a2)] [] [] (.tup [(FoA y.1),(I y.2)]):=by
 unfold p_es at hy
 refine does_of at113 r (le_ok r)<|?_
 rintro ⟨_,base,w0,F⟩ rfl
 refine reg 3 r<|bx 1 r r r r<|rg_alloc (s:=2) (gd_of r) zc81 (elems_one (by rfl)) (lt_ok r)<|go 1 r<|dn<|at_seq<|reg 5 r<|ldw tk81 r r r r r r<|go 2 r<|bndH hy fun r1 qr1 hy=>clc (w_g0 qr1) ca132 r r r<|go 1 r<|dn<|rg r<|cdH r hy (fun hy=>?_) fun hy=>?_
 ·refine reg 4 r<|ldw tk81 r r r r r r<|go 1 r<|str tk81 r r r r r r r<|go 1 r<|dn<|at_ret<|?_
  obtain rfl:=sj hy
  exact mR r r (.c r r r tk81 r (.t r .nil))
 ·refine at_skip<|regd mixed 8 r<|ldw tk81 r r r r r r<|go 1 r<|bndH hy fun r2 qr2 hy=>clc (w_fU qr2) ca65 r r r<|ldw tk81 r r r r r r<|go 1 r<|bndH hy fun r3 qr3 hy=>clc (w_fU qr3) ca65 r r r<|go 2 r<|dn ⟨by kernel_rfl,?_⟩
  refine at_seq<|rg r<|cdH r hy (fun hy=>?_) fun hy=>?_
  ·refine reg 3 r<|ldw tk81 r r r r r r<|str tk81 r r r r r r r<|go 1 r<|dn<|at_ret<|?_
   obtain rfl:=sj hy
   exact mR r r (.c r r r tk81 r (.t r .nil))
  ·refine at_skip<|reg 12 r<|fa fo81_1 r r r<|ld tk30 r r r r r r<|go 1 r<|ixH hy fun i4 v5 qi4 xv5 hy=>fixP (f:=(SL 1 I)) sl30 qi4 xv5 r r r r<|fld tk29 r r r r<|go 1 r<|bndH hy fun r6 qr6 hy=>clc (w_gt qr6) ca133 r r r<|go 5 r<|dn<|reg 12 r<|fa fo81_1 r r r<|ld tk30 r r r r r r<|go 1 r<|ixH hy fun i7 v8 qi7 xv8 hy=>fixP (f:=(SL 1 I)) sl30 qi7 xv8 r r r r<|fld tk29 r r r r<|go 1 r<|bndH hy fun r9 qr9 hy=>clc (w_gt qr9) ca133 r r r<|go 5 r<|dn<|regd mixed 20 r<|go 1 r<|?_
   obtain ⟨i10,i11,qi10,qi11,bi10,ci10,hy⟩:=slI hy
   refine fslhP (f:=I) sl29 qi10 qi11 ci10 r r r r<|?_
   generalize ((List.take i11 r6.1).drop i10)=v12 at hy ⊢
   refine fa fo81_0 r r r<|ld tk3 r r r r r r<|go 2 r<|bndH hy fun r13 qr13 hy=>clc (w_gC qr13) ca135 r r r<|bldsF I ([r13]:List Int) 3 pu_I se29 r r r r r r r<|go 1 r<|fa fo81_0 r r r<|ld tk3 r r r r r r<|go 2 r<|bndH hy fun r14 qr14 hy=>clc (w_gC qr14) ca135 r r r<|bldsF I ([r14]:List Int) 4 pu_I se29 r r r r r r r<|go 1 r<|?_
   obtain ⟨i15,i16,qi15,qi16,bi15,ci15,hy⟩:=slI hy
   refine fsllP (f:=I) sl29 qi15 qi16 bi15 r r r r<|?_
   generalize ((List.take i16 r6.1).drop i15)=v17 at hy ⊢
   refine bldsF (SL 1 I) ([v12,[r13],r9.1,[r14],v17]:List (List Int)) 5 (pu_l 1 pu_I) se30 r r r r r r r<|bndH hy fun r18 qr18 hy=>clc (w_eI qr18) ca134 r r r<|go 1 r<|dn ⟨by kernel_rfl,?_⟩
   refine reg 9 r<|ldw tk81 r r r r r r<|go 2 r<|bldsF I ([r2,r3]:List Int) 6 pu_I se29 r r r r r r r<|go 1 r<|bldsF (SL 1 I) ([r18]:List (List Int)) 7 (pu_l 1 pu_I) se30 r r r r r r r<|bndH hy fun r19 qr19 hy=>clc (w_g6 qr19) ca136 r r r<|str tk81 r r r r r r r<|go 1 r<|dn<|at_ret<|?_
   obtain rfl:=sj hy
   exact mR r r (.c r r r tk81 r (.t r .nil))
def p_eP (K:Nat) (a0:Fo) (a1:(List Ed)):Option (Fo × (List Bool) × Int) :=
 ((p_fb K a0 a1 (fun (x0:Fo) (x1:Int) (x2:Int)=>p_es K x0 x1 x2)).bind fun r1=>some (r1.1,r1.2.1,r1.2.2))
theorem w_gL {K:Nat}{a0:Fo}{a1:(List Ed)}{y:(Fo × (List Bool) × Int)} (hy:p_eP K a0 a1=some y):Does PP GV 90 [] [(FoA a0),((SL 2 EdA) a1)] [] [] (.tup [(FoA y.1),((SL 1 B) y.2.1),(I y.2.2)]):=by
 unfold p_eP at hy
 refine does_of at90 r (le_ok r)<|?_
 rintro ⟨_,base,w0,F⟩ rfl
 refine reg 4 r<|bx 1 r r r r<|rg_alloc (s:=2) (gd_of r) zc81 (elems_one (by rfl)) (lt_ok r)<|go 2 r<|dn<|reg 9 r<|ldw tk81 r r r r r r<|go 1 r<|bndH hy fun r1 qr1 hy=>clp (w_gP (a2h:=fun h=>w_g7 h) (a2k:=ca113) (a2l:=⟨r,r⟩) (a2p:=.nil) (a2q:=.nil) qr1) ca112 r r (.cons (pu_Fo _) (.cons ((pu_l 2 pu_Ed) _) (.cons (pu_fn (.nil) (.nil)) (.nil)))) (.tup (.cons (pu_Fo _) (.cons ((pu_l 1 pu_B) _) (.cons (pu_I _) (.nil))))) r<|go 3 r<|str tk81 r r r r r r r<|go 2 r<|dn<|at_ret<|?_
 obtain rfl:=sj hy
 exact mR r r (.c r r r tk81 r (.t r (.t r .nil)))
def p_cK (K:Nat) (a0:Int):Nat→Int→(List (List Int))→Option (List (List Int))
 | 0,_,_=>none
 | n+1,v13_1,l2021_1=>(bif (decide (v13_1 < a0)) then (apP 24 l2021_1.length [[v13_1]].length (p_cK K a0 n (w64 (v13_1+1)) (l2021_1++[[v13_1]]))) else some l2021_1)
def p_e2 (K:Nat) (a0:Int):Option (Fo × Int) :=
 ((p_c4 K a0).bind fun r1=>(bif (!r1) then some ((Fo.mk 0 []),1) else ((p_cK K a0 K 0 []:Option (List (List Int))).bind fun l2021_2=>some ((Fo.mk a0 l2021_2),0))))
theorem w_g8 {K:Nat}{a0:Int}{y:(Fo × Int)} (hy:p_e2 K a0=some y):Does PP GV 89 [] [(I a0)] [] [] (.tup [(FoA y.1),(I y.2)]):=by
 unfold p_e2 at hy
 refine does_of at89 r (le_ok r)<|?_
 rintro ⟨_,base,w0,F⟩ rfl
 refine reg 2 r<|rg_alloc (s:=1) (gd_of r) zc81 (elems_one (by rfl)) (lt_ok r)<|go 1 r<|dn<|at_seq<|reg 3 r<|go 1 r<|bndH hy fun r1 qr1 hy=>clc (w_fo qr1) ca91 r r r<|go 1 r<|dn<|cdH r hy (fun hy=>?_) fun hy=>?_
 ·refine reg 3 r<|bld bd81 r r r r<|str tk81 r r r r r r r<|go 1 r<|dn<|at_ret<|cellN (SL 1 I) 1 1 1 r r<|?_
  obtain rfl:=sj hy
  exact mR r r (.c r r r tk81 r (.t r .nil))
 ·refine at_skip<|reg 4 r<|go 1 r<|bld bd81 r r r r<|rg_alloc (s:=2) (gd_of r) zc81 (elems_one (by rfl)) (lt_ok r)<|str tk81 r r r r r r r<|dn<|bkH hy fun o1 hy k1 hk1 hc1=>meetD [2] [1] r r (fun (p:(List (List Int)) × Nat × Nat)=>match p with | (l2021_2,g2_1,g2021_1)=>([(4,.ptr 2 g2_1 0 0)],[(2,some (g2_1,.buf 2 [.agg [(I a0),.own 2021 g2021_1 1 0 (l2021_2).length false]])),(2021,some (g2021_1,.buf 1 (l2021_2.map (SL 1 I))))],k1 l2021_2=some y)) ?_ ?_
  ·skip
   refine rg r<|at_block<|cellO (SL 1 I) 2 2021 1 1 r r r<|loopD [2,12] [1] r r (fun (p:Nat × Int × (List (List Int)) × Nat × Nat)=>match p with | (n2,v13_1,l2021_1,g2_2,g2021_2)=>([(4,.ptr 2 g2_2 0 0),(13,(I v13_1))],[(2,some (g2_2,.buf 2 [.agg [(I a0),.own 2021 g2021_2 1 0 (l2021_1).length false]])),(2021,some (g2021_2,.buf 1 (l2021_1.map (SL 1 I))))],p_cK K a0 n2 v13_1 l2021_1=some o1)) (K,0,[],_,_) (lk r) (hk r) hy<|?_
   rintro ⟨n2,v13_1,l2021_1,g2_2,g2021_2⟩ cl hy
   obtain _ | n2:=n2;· cases hy
   refine nf r r<|?_
   replace hy:_=some _:=hy
   rw [p_cK] at hy
   refine rg r<|at_seq<|cdH r hy (fun hy=>?_) fun hy=>?_
   ·refine at_skip<|at_seq<|at_block<|rg r<|reg1 8 r<|fa fo81_1 r r r<|ld tk30 r r r r r r<|go 1 r<|bldsF I ([v13_1]:List Int) 3 pu_I se29 r r r r r r r<|bldsP (SL 1 I) ([[v13_1]]:List (List Int)) 4 se30 r r r r r r r<|apH hy fun k2a k2b hy=>apoP (f:=(SL 1 I)) (l:=l2021_1) (zs:=[[v13_1]]) se30 k2a k2b r r r r r r<|fa fo81_1 r r r<|str tk30 r r r r r r r<|dn<|at_bn<|rg1 r<|againD (n2,(w64 (v13_1+1)),(l2021_1++[[v13_1]]),_,_) (lk r) (hk r) r r hy r
   ·exact at_exit<|at_te<|at_te<|at_inBlock<|metD (l2021_1,_,_) (lk r) (hk r) r r (sj2 hy hc1)
  ·rintro ⟨l2021_2,g2_1,g2021_1⟩ cl hy
   subst hk1
   refine nf r r<|reg 3 r<|ldw tk81 r r r r r r<|str tk81 r r r r r r r<|go 1 r<|dn<|at_ret<|cellF (f:=(SL 1 I)) (l:=l2021_2) 1 2021 1 r r r (pu_l 1 pu_I) r<|?_
   obtain rfl:=sj hy
   exact mR r r (.c r r r tk81 r (.t r .nil))
def p_et (K:Nat) (a0:Int) (a1:(List Ed)):Option (Fo × Int) :=
 ((p_e2 K a0).bind fun r1=>(bif (r1.2 != 0) then some ((Fo.mk 0 []),r1.2) else ((p_eP K r1.1 a1).bind fun r2=>(bif (r2.2.2 != 0) then some ((Fo.mk 0 []),r2.2.2) else some (r2.1,0)))))
theorem w_gu {K:Nat}{a0:Int}{a1:(List Ed)}{y:(Fo × Int)} (hy:p_et K a0 a1=some y):Does PP GV 61 [] [(I a0),((SL 2 EdA) a1)] [] [] (.tup [(FoA y.1),(I y.2)]):=by
 unfold p_et at hy
 refine does_of at61 r (le_ok r)<|?_
 rintro ⟨_,base,w0,F⟩ rfl
 refine reg 2 r<|rg_alloc (s:=1) (gd_of r) zc81 (elems_one (by rfl)) (lt_ok r)<|go 1 r<|dn<|reg 8 r<|go 1 r<|bndH hy fun r1 qr1 hy=>clc (w_g8 qr1) ca89 r r r<|go 3 r<|rg_alloc (s:=2) (gd_of r) zc81 (elems_one (by rfl)) (lt_ok r)<|str tk81 r r r r r r r<|go 1 r<|dn<|at_seq<|rg r<|cdH r hy (fun hy=>?_) fun hy=>?_
 ·refine reg 4 r<|bld bd81 r r r r<|go 1 r<|str tk81 r r r r r r r<|go 1 r<|dn<|at_ret<|cellN (SL 1 I) 1 1 1 r r<|?_
  obtain rfl:=sj hy
  exact mR r r (.c r r r tk81 r (.t r .nil))
 ·refine at_skip<|reg 9 r<|ldw tk81 r r r r r r<|go 1 r<|bndH hy fun r2 qr2 hy=>clc (w_gL qr2) ca90 r r r<|go 4 r<|str tk81 r r r r r r r<|go 1 r<|dn<|at_seq<|rg r<|cdH r hy (fun hy=>?_) fun hy=>?_
  ·refine reg 4 r<|bld bd81 r r r r<|go 1 r<|str tk81 r r r r r r r<|go 1 r<|dn<|at_ret<|cellN (SL 1 I) 1 1 1 r r<|?_
   obtain rfl:=sj hy
   exact mR r r (.c r r r tk81 r (.t r .nil))
  ·refine at_skip<|reg 3 r<|ldw tk81 r r r r r r<|str tk81 r r r r r r r<|go 1 r<|dn<|at_ret<|?_
   obtain rfl:=sj hy
   exact mR r r (.c r r r tk81 r (.t r .nil))
def p_dH (K:Nat) (a0:Int):Option Bool :=
 (bif (decide (a0≥1)) then some (decide (a0≤64)) else some false)
theorem w_gg {K:Nat}{a0:Int}{y:Bool} (hy:p_dH K a0=some y):Does PP GV 86 [] [(I a0)] [] [] (B y):=by
 unfold p_dH at hy
 refine does_of at86 r (le_ok r)<|?_
 rintro ⟨_,base,w0,F⟩ rfl
 refine rg r<|reg 7 r<|go 3 r<|casH 5 r hy (fun hy=>?_) fun hy=>?_
 ·refine go 4 r<|dn<|at_ret<|?_
  obtain rfl:=sj hy
  exact eR r r
 ·refine go 4 r<|dn<|at_ret<|?_
  obtain rfl:=sj hy
  exact eR r r
def p_dT (K:Nat) (a0:Int):Option Int :=
 ((p_dH K a0).bind fun r1=>(bif (!r1) then some 0 else ((p_bp K (IntKind.u64.wrap (w64 (a0 - 1)))).bind fun r2=>some r2)))
theorem w_g9 {K:Nat}{a0:Int}{y:Int} (hy:p_dT K a0=some y):Does PP GV 87 [] [(I a0)] [] [] (I y):=by
 unfold p_dT at hy
 refine does_of at87 r (le_ok r)<|?_
 rintro ⟨_,base,w0,F⟩ rfl
 refine rg r<|at_seq<|reg 3 r<|go 1 r<|bndH hy fun r1 qr1 hy=>clc (w_gg qr1) ca86 r r r<|go 1 r<|dn<|cdH r hy (fun hy=>?_) fun hy=>?_
 ·refine rg r<|at_ret<|?_
  obtain rfl:=sj hy
  exact eR r r
 ·refine at_skip<|reg 5 r<|go 2 r<|rg_conv (gd_of r) (ev_of r) us3 ui76 (lt_ok r)<|bndH hy fun r2 qr2 hy=>clc (w_eA qr2) ca84 r r r<|go 1 r<|dn<|at_ret<|?_
  obtain rfl:=sj hy
  exact eR r r
def p_dQ (K:Nat) (a0:Ti) (a1:Ti):Option Int :=
 ((p_bk K a0.u a1.u).bind fun r1=>((p_bk K a0.v a1.v).bind fun r2=>((p_dY K [r1,r2]).bind fun r3=>some r3)))
theorem w_gD {K:Nat}{a0:Ti}{a1:Ti}{y:Int} (hy:p_dQ K a0 a1=some y):Does PP GV 88 [] [(TiA a0),(TiA a1)] [] [] (I y):=by
 unfold p_dQ at hy
 refine does_of at88 r (le_ok r)<|?_
 rintro ⟨_,base,w0,F⟩ rfl
 refine reg 3 r<|bx 1 r r r r<|bx 2 r r r r<|go 1 r<|dn<|regd mixed 13 r<|fa fo45_0 r r r<|ld tk3 r r r r r r<|fa fo45_0 r r r<|ld tk3 r r r r r r<|bndH hy fun r1 qr1 hy=>clc (w_de qr1) ca59 r r r<|fa fo45_1 r r r<|ld tk3 r r r r r r<|fa fo45_1 r r r<|ld tk3 r r r r r r<|bndH hy fun r2 qr2 hy=>clc (w_de qr2) ca59 r r r<|bldsF I ([r1,r2]:List Int) 3 pu_I se29 r r r r r r r<|bndH hy fun r3 qr3 hy=>clc (w_gk qr3) ca58 r r r<|go 1 r<|dn ⟨by kernel_rfl,?_⟩
 refine at_ret<|?_
 obtain rfl:=sj hy
 exact eR r r
def p_bD (K:Nat) (a0:Gr) (a1:Int):Nat→Int→(List Ed)→Option (List Ed)
 | 0,_,_=>none
 | n+1,v11_1,l1005_1=>(bif (decide (v11_1 < (a0.ties.length:Int))) then (ixP a0.ties v11_1 fun v2=>(bif v2.tree then (bif (decide (v2.level≥a1)) then (apP 16 l1005_1.length [(Ed.mk v2.u v2.v)].length (p_bD K a0 a1 n (w64 (v11_1+1)) (l1005_1++[(Ed.mk v2.u v2.v)]))) else p_bD K a0 a1 n (w64 (v11_1+1)) l1005_1) else p_bD K a0 a1 n (w64 (v11_1+1)) l1005_1)) else some l1005_1)
def p_dI (K:Nat) (a0:Gr) (a1:Int):Option (List Ed) :=
 ((p_bD K a0 a1 K 0 []:Option (List Ed)).bind fun l1005_2=>some l1005_2)
theorem w_gh {K:Nat}{a0:Gr}{a1:Int}{y:(List Ed)} (hy:p_dI K a0 a1=some y):Does PP GV 62 [] [(GrA a0),(I a1)] [] [] ((SL 2 EdA) y):=by
 unfold p_dI at hy
 refine does_of at62 r (le_ok r)<|?_
 rintro ⟨_,base,w0,F⟩ rfl
 refine reg 2 r<|bx 1 r r r r<|go 1 r<|dn<|rg r<|bkH hy fun o1 hy k1 hk1 hc1=>meetD [] [] r r (fun (p:(List Ed) × Nat)=>match p with | (l1005_2,g1005_1)=>([(5,.own 1005 g1005_1 2 0 (l1005_2).length false)],[(1005,some (g1005_1,.buf 2 (l1005_2.map EdA)))],k1 l1005_2=some y)) ?_ ?_
 ·skip
  refine reg 4 r<|fa fo24_1 r r r<|ld tk22 r r r r r r<|lnf (f:=TiA) slB22 r r r<|go 1 r<|dn<|at_block<|niloP (EdA) 5 1005 2 r<|loopD [1,9,10] [] r r (fun (p:Nat × Int × (List Ed) × Nat)=>match p with | (n2,v11_1,l1005_1,g1005_2)=>([(5,.own 1005 g1005_2 2 0 (l1005_1).length false),(11,(I v11_1))],[(1005,some (g1005_2,.buf 2 (l1005_1.map EdA)))],p_bD K a0 a1 n2 v11_1 l1005_1=some o1)) (K,0,[],_) (lk r) (hk r) hy<|?_
  rintro ⟨n2,v11_1,l1005_1,g1005_2⟩ cl hy
  obtain _ | n2:=n2;· cases hy
  refine nf r r<|?_
  replace hy:_=some _:=hy
  rw [p_bD] at hy
  refine rg r<|at_seq<|cdH r hy (fun hy=>?_) fun hy=>?_
  ·refine at_skip<|at_seq<|at_block<|reg 4 r<|ixH hy fun i1 v2 qi1 xv2 hy=>fixP (f:=TiA) sl22 qi1 xv2 r r r r<|fldw tk45 r r r r<|rg_alloc (s:=2) (gd_of r) zc45 (elems_one (by rfl)) (lt_ok r)<|str tk45 r r r r r r r<|dn<|reg 8 r<|fa fo45_3 r r r<|ld tk4 r r r r r r<|go 1 r<|casH 17 r hy (fun hy=>?_) fun hy=>?_
   ·refine fa fo45_2 r r r<|ld tk3 r r r r r r<|go 3 r<|dn<|cdH r hy (fun hy=>?_) fun hy=>?_
    ·refine reg1 9 r<|go 1 r<|fa fo45_0 r r r<|ld tk3 r r r r r r<|fa fo45_1 r r r<|ld tk3 r r r r r r<|bld bd47 r r r r<|bldsP EdA ([(Ed.mk v2.u v2.v)]:List Ed) 3 se41 r r r r r r r<|apH hy fun k3a k3b hy=>apoP (f:=EdA) (l:=l1005_1) (zs:=[(Ed.mk v2.u v2.v)]) se41 k3a k3b r r r r r r<|go 1 r<|dn<|at_bn<|rg1 r<|againD (n2,(w64 (v11_1+1)),(l1005_1++[(Ed.mk v2.u v2.v)]),_) (lk r) (hk r) r r hy r
    ·refine at_skip<|at_bn<|rg1 r<|againD (n2,(w64 (v11_1+1)),l1005_1,_) (lk r) (hk r) r r hy r
   ·refine go 5 r<|dn<|cdf r<|at_skip<|at_bn<|rg1 r<|againD (n2,(w64 (v11_1+1)),l1005_1,_) (lk r) (hk r) r r hy r
  ·exact at_exit<|at_te<|at_te<|at_inBlock<|metD (l1005_1,_) (lk r) (hk r) r r (sj2 hy hc1)
 ·rintro ⟨l1005_2,g1005_1⟩ cl hy
  subst hk1
  refine nf r r<|rg r<|at_ret<|frzP (f:=EdA) (l:=l1005_2) 4 1005 r r pu_Ed<|?_
  obtain rfl:=sj hy
  exact eR r r
def p_b2 (K:Nat) (a0:Gr):Nat→Int→Int→Option (Sum Unit Bool)
 | 0,_,_=>none
 | n+1,v3_1,v25_1=>(bif (decide (v25_1 < (a0.ties.length:Int))) then (ixP a0.ties v25_1 fun v4=>(bif (decide (v4.u < 0)) then some (.inr false) else (bif (decide (v4.u≥v4.v)) then some (.inr false) else (bif (decide (v4.v≥a0.n)) then some (.inr false) else (bif (decide (v4.level < 0)) then some (.inr false) else (bif (decide (v4.level > v3_1)) then some (.inr false) else (bif (decide (v25_1 > 0)) then (ixP a0.ties (w64 (v25_1 - 1)) fun v6=>((p_dQ K v6 v4).bind fun r7=>(bif (decide (r7≥0)) then some (.inr false) else p_b2 K a0 n v3_1 (w64 (v25_1+1))))) else p_b2 K a0 n v3_1 (w64 (v25_1+1))))))))) else some (.inl ()))
def p_dJ (K:Nat) (a0:Gr):Option Bool :=
 ((p_dH K a0.n).bind fun r1=>(bif (!r1) then some false else (bif (decide ((a0.ties.length:Int) > 400)) then some false else ((p_dT K a0.n).bind fun r2=>((p_b2 K a0 K r2 0:Option (Sum Unit Bool)).bind fun | .inl _=>((p_dI K a0 0).bind fun r8=>((p_et K a0.n r8).bind fun r9=>(bif (r9.2 == 0) then some ((r9.1.rings.length:Int) == (w64 (a0.n - (r8.length:Int)))) else some false))) | .inr r=>some r)))))
theorem w_gS {K:Nat}{a0:Gr}{y:Bool} (hy:p_dJ K a0=some y):Does PP GV 60 [] [(GrA a0)] [] [] (B y):=by
 unfold p_dJ at hy
 refine does_of at60 r (le_ok r)<|?_
 rintro ⟨_,base,w0,F⟩ rfl
 refine reg 2 r<|bx 1 r r r r<|go 1 r<|dn<|at_seq<|reg 10 r<|fa fo24_0 r r r<|ld tk3 r r r r r r<|bndH hy fun r1 qr1 hy=>clc (w_gg qr1) ca86 r r r<|go 2 r<|casH 13 r hy (fun hy=>?_) fun hy=>?_
 ·refine go 5 r<|dn<|cdt r<|rg r<|at_ret<|?_
  obtain rfl:=sj hy
  exact eR r r
 ·refine fa fo24_1 r r r<|ld tk22 r r r r r r<|lnf (f:=TiA) slB22 r r r<|go 2 r<|dn<|cdH r hy (fun hy=>?_) fun hy=>?_
  ·refine rg r<|at_ret<|?_
   obtain rfl:=sj hy
   exact eR r r
  ·refine at_skip<|reg 4 r<|fa fo24_0 r r r<|ld tk3 r r r r r r<|bndH hy fun r2 qr2 hy=>clc (w_g9 qr2) ca87 r r r<|go 1 r<|dn<|bkH hy fun o1 hy k1 hk1 hc1=>meetD [1] [1] r r (fun (p:Unit)=>match p with | _=>([],[],k1 (.inl ())=some y)) ?_ ?_
   ·skip
    refine reg 4 r<|fa fo24_1 r r r<|ld tk22 r r r r r r<|lnf (f:=TiA) slB22 r r r<|go 1 r<|dn<|at_block<|loopD [1,23,24] [1] r r (fun (p:Nat × Int × Int)=>match p with | (n2,v3_1,v25_1)=>([(3,(I v3_1)),(25,(I v25_1))],[],p_b2 K a0 n2 v3_1 v25_1=some o1)) (K,r2,0) (lk r) .nil hy<|?_
    rintro ⟨n2,v3_1,v25_1⟩ cl hy
    obtain _ | n2:=n2;· cases hy
    refine nf r r<|?_
    replace hy:_=some _:=hy
    rw [p_b2] at hy
    refine rg r<|at_seq<|cdH r hy (fun hy=>?_) fun hy=>?_
    ·refine at_skip<|at_seq<|at_block<|reg 6 r<|go 1 r<|ixH hy fun i3 v4 qi3 xv4 hy=>fixP (f:=TiA) sl22 qi3 xv4 r r r r<|fldw tk45 r r r r<|rg_alloc (s:=2) (gd_of r) zc45 (elems_one (by rfl)) (lt_ok r)<|go 1 r<|str tk45 r r r r r r r<|dn<|regd mixed 43 r<|fa fo45_0 r r r<|ld tk3 r r r r r r<|go 2 r<|casH 33 r hy (fun hy=>?_) fun hy=>?_
     ·refine go 39 r<|dn ⟨by kernel_rfl,?_⟩
      refine cdt r<|rg r<|at_ret<|?_
      obtain rfl:=sj hy
      subst hk1;obtain rfl:=sj hc1
      exact eR r r
     ·refine fa fo45_0 r r r<|ld tk3 r r r r r r<|fa fo45_1 r r r<|ld tk3 r r r r r r<|go 3 r<|casH 40 r hy (fun hy=>?_) fun hy=>?_
      ·refine go 32 r<|dn ⟨by kernel_rfl,?_⟩
       refine cdt r<|rg r<|at_ret<|?_
       obtain rfl:=sj hy
       subst hk1;obtain rfl:=sj hc1
       exact eR r r
      ·refine fa fo45_1 r r r<|ld tk3 r r r r r r<|fa fo24_0 r r r<|ld tk3 r r r r r r<|go 3 r<|casH 47 r hy (fun hy=>?_) fun hy=>?_
       ·refine go 25 r<|dn ⟨by kernel_rfl,?_⟩
        refine cdt r<|rg r<|at_ret<|?_
        obtain rfl:=sj hy
        subst hk1;obtain rfl:=sj hc1
        exact eR r r
       ·refine fa fo45_2 r r r<|ld tk3 r r r r r r<|go 3 r<|casH 52 r hy (fun hy=>?_) fun hy=>?_
        ·refine go 20 r<|dn ⟨by kernel_rfl,?_⟩
         refine cdt r<|rg r<|at_ret<|?_
         obtain rfl:=sj hy
         subst hk1;obtain rfl:=sj hc1
         exact eR r r
        ·refine fa fo45_2 r r r<|ld tk3 r r r r r r<|go 4 r<|casH 58 r hy (fun hy=>?_) fun hy=>?_
         ·refine go 14 r<|dn ⟨by kernel_rfl,?_⟩
          refine cdt r<|rg r<|at_ret<|?_
          obtain rfl:=sj hy
          subst hk1;obtain rfl:=sj hc1
          exact eR r r
         ·refine go 3 r<|casH 61 r hy (fun hy=>?_) fun hy=>?_
          ·refine fa fo24_1 r r r<|ld tk22 r r r r r r<|go 2 r<|ixH hy fun i5 v6 qi5 xv6 hy=>fixP (f:=TiA) sl22 qi5 xv6 r r r r<|fldw tk45 r r r r<|ldw tk45 r r r r r r<|bndH hy fun r7 qr7 hy=>clc (w_gD qr7) ca88 r r r<|go 3 r<|dn ⟨by kernel_rfl,?_⟩
           refine cdH r hy (fun hy=>?_) fun hy=>?_
           ·refine rg r<|at_ret<|?_
            obtain rfl:=sj hy
            subst hk1;obtain rfl:=sj hc1
            exact eR r r
           ·refine at_skip<|at_bn<|rg1 r<|againD (n2,v3_1,(w64 (v25_1+1))) (lk r) .nil r r hy r
          ·refine go 11 r<|dn ⟨by kernel_rfl,?_⟩
           refine cdf r<|at_skip<|at_bn<|rg1 r<|againD (n2,v3_1,(w64 (v25_1+1))) (lk r) .nil r r hy r
    ·exact at_exit<|at_te<|at_te<|at_inBlock<|metD () .nil .nil r r (sj2 hy hc1)
   ·rintro ⟨⟩ cl hy
    subst hk1
    refine nf r r<|reg 3 r<|ldw tk24 r r r r r r<|bndH hy fun r8 qr8 hy=>clc (w_gh qr8) ca62 r r r<|go 1 r<|dn<|reg 10 r<|fa fo24_0 r r r<|ld tk3 r r r r r r<|go 1 r<|bndH hy fun r9 qr9 hy=>clc (w_gu qr9) ca61 r r r<|go 3 r<|rg_alloc (s:=3) (gd_of r) zc81 (elems_one (by rfl)) (lt_ok r)<|str tk81 r r r r r r r<|go 1 r<|dn<|reg 14 r<|go 3 r<|casH 85 r hy (fun hy=>?_) fun hy=>?_
    ·refine fa fo81_1 r r r<|ld tk30 r r r r r r<|lnf (f:=(SL 1 I)) slB30 r r r<|fa fo24_0 r r r<|ld tk3 r r r r r r<|go 1 r<|lnf (f:=EdA) slB41 r r r<|go 4 r<|dn<|at_ret<|?_
     obtain rfl:=sj hy
     exact eR r r
    ·refine go 11 r<|dn<|at_ret<|?_
     obtain rfl:=sj hy
     exact eR r r
def p_do (K:Nat) (a0:Gr) (a1:Int):Option (Fo × Int) :=
 ((p_dJ K a0).bind fun r1=>(bif (!r1) then some ((Fo.mk 0 []),1) else ((p_dI K a0 a1).bind fun r2=>((p_et K a0.n r2).bind fun r3=>some (r3.1,r3.2)))))
theorem w_gM {K:Nat}{a0:Gr}{a1:Int}{y:(Fo × Int)} (hy:p_do K a0 a1=some y):Does PP GV 35 [] [(GrA a0),(I a1)] [] [] (.tup [(FoA y.1),(I y.2)]):=by
 unfold p_do at hy
 refine does_of at35 r (le_ok r)<|?_
 rintro ⟨_,base,w0,F⟩ rfl
 refine reg 3 r<|bx 1 r r r r<|rg_alloc (s:=2) (gd_of r) zc81 (elems_one (by rfl)) (lt_ok r)<|go 1 r<|dn<|at_seq<|reg 3 r<|ldw tk24 r r r r r r<|bndH hy fun r1 qr1 hy=>clc (w_gS qr1) ca60 r r r<|go 1 r<|dn<|cdH r hy (fun hy=>?_) fun hy=>?_
 ·refine reg 3 r<|bld bd81 r r r r<|str tk81 r r r r r r r<|go 1 r<|dn<|at_ret<|cellN (SL 1 I) 2 1 1 r r<|?_
  obtain rfl:=sj hy
  exact mR r r (.c r r r tk81 r (.t r .nil))
 ·refine at_skip<|regd mixed 10 r<|fa fo24_0 r r r<|ld tk3 r r r r r r<|ldw tk24 r r r r r r<|go 1 r<|bndH hy fun r2 qr2 hy=>clc (w_gh qr2) ca62 r r r<|bndH hy fun r3 qr3 hy=>clc (w_gu qr3) ca61 r r r<|go 2 r<|str tk81 r r r r r r r<|go 1 r<|dn ⟨by kernel_rfl,?_⟩
  refine at_ret<|?_
  obtain rfl:=sj hy
  exact mR r r (.c r r r tk81 r (.t r .nil))
def p_fE (K:Nat) (a0:Fo) (a1:Int):Option Int :=
 ((p_dj K a0.n a1).bind fun r1=>(bif (!r1) then some (-1) else ((p_dt K a0).bind fun r2=>(bif (!r2) then some (-1) else ((p_du K a0 a1).bind fun r3=>some r3)))))
theorem w_hk {K:Nat}{a0:Fo}{a1:Int}{y:Int} (hy:p_fE K a0 a1=some y):Does PP GV 36 [] [(FoA a0),(I a1)] [] [] (I y):=by
 unfold p_fE at hy
 refine does_of at36 r (le_ok r)<|?_
 rintro ⟨_,base,w0,F⟩ rfl
 refine reg 2 r<|bx 1 r r r r<|go 1 r<|dn<|at_seq<|reg 10 r<|fa fo81_0 r r r<|ld tk3 r r r r r r<|go 1 r<|bndH hy fun r1 qr1 hy=>clc (w_fk qr1) ca63 r r r<|go 2 r<|casH 10 r hy (fun hy=>?_) fun hy=>?_
 ·refine go 4 r<|dn<|cdt r<|rg r<|at_ret<|?_
  obtain rfl:=sj hy
  exact eR r r
 ·refine ldw tk81 r r r r r r<|bndH hy fun r2 qr2 hy=>clc (w_fT qr2) ca64 r r r<|go 2 r<|dn<|cdH r hy (fun hy=>?_) fun hy=>?_
  ·refine rg r<|at_ret<|?_
   obtain rfl:=sj hy
   exact eR r r
  ·refine at_skip<|reg 4 r<|ldw tk81 r r r r r r<|go 1 r<|bndH hy fun r3 qr3 hy=>clc (w_fU qr3) ca65 r r r<|go 1 r<|dn<|at_ret<|?_
   obtain rfl:=sj hy
   exact eR r r
end Go.Ar
