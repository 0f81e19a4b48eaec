import Derived.Test.YteefcelbbenmdaaGreatDoorCards
import Derived.Test.YteefcelbbenmdaaGreatDoorTie
import Derived.Test.YteefcelbbenmdaaGreatDoorA05
set_option linter.all false
namespace Go.Proofs.YteefcelbbenmdaaGreatDoor
open Go Go.Ar Go.ChangeShapes Go.WideShapes Go.ChangeAt Go.RowKit
theorem own:ownKnob Tryz.prog.godebug=Option.none:=by kernel_rfl
theorem gTab:Tryz.prog.globalNamed "math/bits.deBruijn32tab" = some 0:=by kernel_rfl
theorem gTabType:(Tryz.prog.globals[0]?).map (·.type)=some 120:=by kernel_rfl
theorem laidOut:laidOutB Tryz.prog=true:=by kernel_rfl
theorem mapsRow:mapsRowed Tryz.prog=true:=by kernel_rfl
theorem slicesFull:((List.range Tryz.prog.types.size).all fun t=>match Tryz.prog.underlying t with | some (.slice e)=>decide (0 < Tryz.prog.cellsOf e) | _=>true)=true:=by kernel_rfl
theorem cells5:Tryz.prog.cellsOf 5=1:=by kernel_rfl
theorem cells120:Tryz.prog.cellsOf 120=32:=by kernel_rfl
theorem table {W:World} (h:laidMetH Tryz.prog Rows.seekHeightsRow.laid W):∀ p∈GV,∃ t,W.heap[p.1]? = some (.cells p.2.1 t (0,0)):=by
 intro p hp
 have:=laid_head (k:=.u8) (zs:=[0,1,28,2,29,14,24,3,30,22,20,15,25,17,4,8,31,27,13,23,21,19,16,7,26,12,18,6,11,5,10,9]) (rest:=[]) gTab gTabType Tryz.underlying120 Tryz.underlying5 cells5 cells120 (by decide) h
 have e:=List.mem_singleton.1 hp
 subst e
 exact this
theorem params:(Tryz.f4.params.toList.all fun t=>decide (t < Tryz.prog.types.size))=true:=by kernel_rfl
theorem results:Tryz.f4.resultTypes = #[4]:=by kernel_rfl
set_option maxRecDepth 20000 in
theorem contract (H : Type) (enc : TypeId × Value → H) (W : World) (base : Nat) (args : Array Value) (ds gs : List (DataW H)) (before : List MemPlace)
    (hval:∀ (j:Nat) t v,Tryz.f4.params[j]? = some t→args[j]? = some v→Value.okWide Tryz.prog W .any base t v)
    (hW:DataW.Whole enc Tryz.prog Tryz.f4.params.toList Rows.seekHeightsSpec.vars false W args.toList ds gs before) (hL:laidMetH Tryz.prog Rows.seekHeightsRow.laid W) :
    Calls Tryz.prog 4 args W fun e W'=>∃ v,e = .returned v∧Rows.seekHeightsSpec.post enc Tryz.prog Tryz.f4 false true false false W args v W':=by
 have hW':=hW
 obtain ⟨p,q,hA0,hV,rfl,hfz,hnd⟩:=hW
 have hA:DataW.TrodAll enc Tryz.prog W 0 (fun _=>true) true Tryz.f4.params.toList args.toList ds p:=hA0
 rw [Tryz.params4] at hA hval
 obtain ⟨v0,vs0,d0,ds0,p0,q0,hargs,rfl,rfl,⟨n0,h0⟩,r0⟩:=trodAll_cons hA
 obtain ⟨v1,vs1,d1,ds1,p1,q1,rfl,rfl,rfl,⟨n1,h1⟩,r1⟩:=trodAll_cons r0
 obtain ⟨v2,vs2,d2,ds2,p2,q2,rfl,rfl,rfl,⟨n2,h2⟩,r2⟩:=trodAll_cons r1
 obtain ⟨rfl,rfl,rfl⟩:=trodAll_nil r2
 obtain rfl:args = #[v0,v1,v2]:=by cases args;simp_all
 obtain ⟨rfl,rfl⟩:=trodVars_none hV
 obtain ⟨c0,rfl,_⟩:=okWide_struct Tryz.underlying24 (hval 0 24 v0 (by simp) (by simp))
 obtain ⟨g,_,_,_,hg⟩:=rd_Gr H enc W n0 _ _ h0
 obtain ⟨two,ht2,_,_,htw⟩:=rd_Two H enc W n1 _ _ h1
 obtain ⟨sc,hsc,_,_,hscr⟩:=rd_Script H enc W n2 _ _ h2
 obtain ⟨a2,l2,cap2,rfl⟩:=okWide_slice Tryz.underlying26 (hval 2 26 v2 (by simp) (by simp))
 have ha1:∃ cs,v1 = .agg cs:=by
  have:=hval 1 25 v1 (by simp) (by simp)
  simp only [Value.okWide,Tryz.underlying25] at this
  obtain ⟨cs,e,_⟩:=this
  exact ⟨cs,e⟩
 obtain ⟨c1,rfl⟩:=ha1
 have hx:∀ (i:Nat) x,[GrA g,AR I two,SL 1 (J .u32) sc][i]? = some x→∀ v,[Value.agg c0,Value.agg c1,Value.slice a2 l2 cap2][i]? = some v→VT (cxA W) x v:=by
  intro i x hx v hv
  match i with
  | 0=>simp at hx hv;subst hx;subst hv;exact ⟨c0.toList,by simp,hg⟩
  | 1=>simp at hx hv;subst hx;subst hv;exact ⟨c1.toList,by simp,htw⟩
  | 2=>simp at hx hv;subst hx;subst hv;exact ⟨rfl,hscr⟩
  | i+3=>simp at hx
 refine (law_call (SeekHeights_does ht2 hsc) (table hL) rfl hx).mono fun e W' ⟨he,hB⟩=>⟨_,he,?_⟩
 exact law_post laidOut mapsRow slicesFull params results Tryz.underlying4 rfl rfl hW' hB
noncomputable def laidWorld (os:Os):World :=
 { World.holding Tryz.prog os ⟨#[], #[], []⟩ with heap := (World.holding Tryz.prog os ⟨#[], #[], []⟩).heap.modify 0 fun
     | .cells _ t frozen=>.cells #[.int .u8 0,.int .u8 1,.int .u8 28,.int .u8 2,.int .u8 29,.int .u8 14,.int .u8 24,.int .u8 3,.int .u8 30,.int .u8 22,.int .u8 20,.int .u8 15,.int .u8 25,.int .u8 17,.int .u8 4,.int .u8 8,.int .u8 31,.int .u8 27,.int .u8 13,.int .u8 23,.int .u8 21,.int .u8 19,.int .u8 16,.int .u8 7,.int .u8 26,.int .u8 12,.int .u8 18,.int .u8 6,.int .u8 11,.int .u8 5,.int .u8 10,.int .u8 9] t frozen
     | o=>o }
noncomputable abbrev wArgs:Array Value:=#[.agg #[.int .i64 0,.slice Option.none 0 0],.agg #[.int .i64 0,.int .i64 0],.slice Option.none 0 0]
theorem laid_met (os:Os):laidMet Tryz.prog Rows.seekHeightsRow.laid ((laidWorld os).forCall (fun _ _=>0) ⟨#[],wArgs,[]⟩).memory :=
 laidMet_of_run' 8 (by kernel_rfl) (by kernel_rfl)
theorem reads (os:Os) {H:Type} (enc:TypeId × Value→H):∃ places,DataW.whole enc Tryz.prog ((laidWorld os).forCall (fun _ _=>0) ⟨#[],wArgs,[]⟩).memory Tryz.f4.params.toList Rows.seekHeightsSpec.vars false wArgs.toList 8=some ([.agg [.lit (.int .i64 0),.nil],.agg [.lit (.int .i64 0),.lit (.int .i64 0)],.nil],[],places) :=
 ⟨[],by kernel_rfl⟩
set_option maxRecDepth 100000 in
theorem lifted (os : Os) (started : os.Started) (H : Type) (enc : TypeId × Value → H) (F : Stop.Interp) :
    ReturnsInHanded {} Tryz.checked os 4 .any ((OpenSpec.ofChange Rows.seekHeightsSpec).preRow enc Tryz.prog Tryz.f4 Rows.seekHeightsRow.domain false Rows.seekHeightsRow.laid) (((OpenSpec.ofChange Rows.seekHeightsSpec).at F).post enc Tryz.prog Tryz.f4 false true false false):=by
 obtain ⟨places,hx⟩:=reads os enc
 refine returnsInHanded_of_row (C:=Tryz.checked) (s:=OpenSpec.ofChange Rows.seekHeightsSpec) own started (by kernel_rfl) Tryz.func4
  (witness_row_at (enc:=enc) (C:=Tryz.checked) false (laidWorld os) wArgs rfl (by kernel_rfl) (by kernel_rfl) (by kernel_rfl)
   (OpenSpec.preRow_of_cond 8 hx (by kernel_rfl) (fun k hk=>by cases hk) (by kernel_rfl) (laid_met os))) ?_
 intro W base args ds gs before hval hW _ _ _ hL _ _
 exact contract H enc W base args ds gs before hval hW hL
set_option maxRecDepth 100000 in
theorem said:Rows.SeekHeightsSaid :=
 OpenClaim.holds_of_cond 4 Tryz.f4 rfl rfl rfl rfl rfl rfl rfl ⟨rfl,rfl,rfl,rfl,rfl⟩ rfl rfl rfl rfl rfl (by kernel_rfl) Tryz.func4 (by kernel_rfl)
  (of_decide_eq_true (by kernel_rfl)) (by unfold Func.isWrapper;first | (rw [if_pos (by decide +kernel)];kernel_rfl) | (rw [if_neg (by decide +kernel)];exact ⟨rfl,rfl⟩))
  (fun os started H enc _ F=>by rw [OpenClaim.pre_eq_preRow];exact lifted os started H enc F)
theorem plain (f : FuncId) (fn : Func) (hf : Tryz.pinned.checked.prog.funcNamed "archipelago/archipelagolaw29.SeekHeights" = some f) (hfn : Tryz.pinned.checked.prog.funcs[f]? = some fn) :
    false=Tryz.pinned.checked.prog.looks []∧∀ (j:Nat) t,fn.params[j]? = some t→Tryz.pinned.checked.prog.wantsStandIn t=false:=by
 obtain rfl:f=4:=Option.some.inj ((show Tryz.prog.funcNamed "archipelago/archipelagolaw29.SeekHeights" = some 4 by kernel_rfl).symm.trans hf) |>.symm
 obtain rfl:fn=Tryz.f4:=(Option.some.inj (Tryz.func4.symm.trans hfn)).symm
 refine ⟨by kernel_rfl,fun j t ht=>?_⟩
 rw [Tryz.params4] at ht
 have hm:t=24∨t=25∨t=26:=by simpa using Array.mem_of_getElem? ht
 rcases hm with rfl | rfl | rfl
 ·exact (show Tryz.prog.wantsStandIn 24=false by kernel_rfl)
 ·exact (show Tryz.prog.wantsStandIn 25=false by kernel_rfl)
 ·exact (show Tryz.prog.wantsStandIn 26=false by kernel_rfl)
set_option maxRecDepth 100000 in
theorem seekHeights_holds:Rows.SeekHeightsCardSaid :=
 Claim7.holds_tied_plain_at .later [] _ _ _ _ said (fun _ h=>by cases h) (by kernel_rfl) (fun _ h=>by cases h) seekHeights_row_tie rfl ⟨rfl,rfl⟩ (by kernel_rfl) rfl plain (by kernel_rfl)
#print axioms seekHeights_holds
end Go.Proofs.YteefcelbbenmdaaGreatDoor
