import Derived.Orders
import Derived.Below
import Derived.Laws.Sem
import Derived.Tactics
import Derived.WalkKit
import Derived.IntWalk
import Derived.Deep.AppendSrc
import Derived.Maps.Keyed
import Derived.Laws.StructEq
set_option linter.all false
namespace Go.Ar
open Go.RowKit
inductive AV where
 | v (x:Value)
 | agg (xs:List AV)
 | tup (xs:List AV)
 | lst (nw:Bool) (sz:Nat) (xs:List AV)
 | own (s g sz off len:Nat) (cl:Bool)
 | ptr (s g i off:Nat)
 | fptr (x:AV) (off:Nat)
 | mp (s g:Nat)
 | fmp (kv:List (Value × AV))
 | fn (f:Fn) (first caps:List AV)
 | any
 deriving Inhabited
inductive Ob where
 | buf (sz:Nat) (xs:List AV)
 | map (kv:List (Value × AV))
 | other (P:Obj→Prop)
structure Loc where
 blk:Option Nat
 sz:Nat
 room:Nat
structure Cx where
 E:Nat→Nat→Option Loc
 G:Nat→Prop
 B:Bool→Nat→Prop
 w:World
structure Fr where
 V:Nat→Prop
 D:Nat→Prop
 E0:Nat→Option Loc
instance:CoeFun Fr fun _=>Nat→Prop:=⟨Fr.V⟩
abbrev one (x:Value):Bool:=x.oneCell'
theorem cells_one {x:Value} (h:one x=true):x.cells = #[x]:=by cases x <;> simp_all [one,Value.oneCell',Value.cells]
def flat:AV→Bool
 | .agg _ | .tup _=>false
 | _=>true
def Lay (x:AV) (v:Value) (cs:List Value):Prop:=match x with
 | .agg _=>v = .agg cs.toArray
 | _=>cs=[v]∧one v=true
inductive VR (C:Cx):AV→List Value→Prop
 | v (x:Value):one x=true→VR C (.v x) [x]
 | agg (xs:List AV) (cs:List Value):xs.length=cs.length→(∀ c∈cs,one c=true)→(∀ x∈xs,flat x=true)→(∀ (i:Nat) x,xs[i]? = some x→∀ c,cs[i]? = some c→VR C x [c])→VR C (.agg xs) cs
 | lst (nw : Bool) (sz : Nat) (xs : List AV) (A : Option Addr) (c : Nat) (cells : Nat → List Value) : xs.length ≤ c →
     (∀ (j:Nat) x,xs[j]? = some x→VR C x (cells j))→(∀ j,j < xs.length→(cells j).length=sz) →
     (∀ j,j < xs.length→∃ ad:Addr,A=some ad∧ad.spot=none∧C.B nw ad.block∧∀ (i:Nat) u,(cells j)[i]? = some u→C.w.cell? (ad.add (j * sz+i))=some u) →
     VR C (.lst nw sz xs) [.slice A xs.length c]
 | own (s g sz off len : Nat) (cl : Bool) (A : Option Addr) (c : Nat) : C.G g → len ≤ c → (cl = true → c = len) →
     (0 < c→∃ b p,A=some ⟨b,p,none⟩∧∀ L,C.E s g=some L→L.blk=some b∧L.sz=sz∧p=off * sz∧(off+c) * sz≤L.room)→VR C (.own s g sz off len cl) [.slice A len c]
 | ptr (s g i off b p:Nat):C.G g→(∀ L,C.E s g=some L→L.blk=some b∧p=i * L.sz+off)→VR C (.ptr s g i off) [.pointer (some ⟨b,p,none⟩)]
 | fptr (x:AV) (off:Nat) (ad:Addr) (cs:List Value):VR C x cs→ad.spot=none→C.B false ad.block→(∀ (i:Nat) u,cs[i]? = some u→C.w.cell? (ad.add i)=some u)→VR C (.fptr x off) [.pointer (some (ad.add off))]
 | mp (s g b:Nat):C.G g→(∀ L,C.E s g=some L→L.blk=some b)→VR C (.mp s g) [.map (some b)]
 | fmp (kv : List (Value × AV)) (b : Nat) (es : Array MapEntry) (clock : Nat) (cells : Nat → List Value) : C.B false b → C.w.heap[b]? = some (.map es clock) → es.size = kv.length →
     (∀ (i:Nat) p,kv[i]? = some p→VR C p.2 (cells i))→(∀ (i:Nat) p,kv[i]? = some p→∃ e,es[i]? = some e∧e.key=p.1∧Lay p.2 e.val (cells i))→VR C (.fmp kv) [.map (some b)]
 | fn (f : Fn) (first caps : List AV) (vs ws : List Value) : first.length = vs.length → caps.length = ws.length → (∀ c ∈ vs, one c = true) → (∀ c ∈ ws, one c = true) →
     (∀ (i:Nat) x,first[i]? = some x→∀ c,vs[i]? = some c→VR C x [c])→(∀ (i:Nat) x,caps[i]? = some x→∀ c,ws[i]? = some c→VR C x [c]) →
     VR C (.fn f first caps) [.func f vs.toArray ws.toArray]
 | any (u:Value):one u=true→VR C .any [u]
structure Cx.Le (C C':Cx):Prop where
 E:∀ s g L,C.G g→C'.E s g=some L→C.E s g=some L
 G:∀ g,C.G g→C'.G g
 B:∀ nw b,C.B nw b→C'.B nw b∧C'.w.heap[b]? = C.w.heap[b]?
theorem cell_same {w w':World}{a:Addr} (h:w'.heap[a.block]? = w.heap[a.block]?):w'.cell? a=w.cell? a:=by simp [World.cell?,h]
theorem add_block (a:Addr) (n:Nat):(a.add n).block=a.block:=by unfold Addr.add;split <;> rfl
theorem VR.mono {C C':Cx} (h:C.Le C') {x:AV}{cs:List Value} (hv:VR C x cs):VR C' x cs:=by
 induction hv with
 | v x h1=>exact .v x h1
 | agg xs cs h1 h2 h3 _ ih=>exact .agg xs cs h1 h2 h3 ih
 | lst nw sz xs A c cells h1 h2 h3 h4 ih =>
  refine .lst nw sz xs A c cells h1 ih h3 fun j hj=>?_
  obtain ⟨ad,e,hs,hb,hc⟩:=h4 j hj
  obtain ⟨hb',hw⟩:=h.B _ _ hb
  refine ⟨ad,e,hs,hb',fun i u hu=>?_⟩
  exact (cell_same (w:=C.w) (w':=C'.w) (by rw [add_block];exact hw)).trans (hc i u hu)
 | own s g sz off len cl A c hg h1 h2 h3 =>
  refine .own s g sz off len cl A c (h.G _ hg) h1 h2 fun hc=>?_
  obtain ⟨b,p,e,h4⟩:=h3 hc
  exact ⟨b,p,e,fun L hL=>h4 L (h.E _ _ _ hg hL)⟩
 | ptr s g i off b p hg h2=>exact .ptr s g i off b p (h.G _ hg) fun L hL=>h2 L (h.E _ _ _ hg hL)
 | fptr x off ad cs _ hs hb hc ih =>
  obtain ⟨hb',hw⟩:=h.B _ _ hb
  refine .fptr x off ad cs ih hs hb' fun i u hu=>?_
  exact (cell_same (w:=C.w) (w':=C'.w) (by rw [add_block];exact hw)).trans (hc i u hu)
 | mp s g b hg h2=>exact .mp s g b (h.G _ hg) fun L hL=>h2 L (h.E _ _ _ hg hL)
 | fmp kv b es clock cells hb h1 h2 _ h4 ih =>
  obtain ⟨hb',hw⟩:=h.B _ _ hb
  exact .fmp kv b es clock cells hb' (hw.trans h1) h2 ih h4
 | fn f first caps vs ws h1 h2 o1 o2 _ _ ih3 ih4=>exact .fn f first caps vs ws h1 h2 o1 o2 ih3 ih4
 | any u h1=>exact .any u h1
def VV (C:Cx):AV→Value→Prop
 | .agg xs,v=>∃ cs:List Value,v = .agg cs.toArray∧VR C (.agg xs) cs
 | .any,_=>True
 | .tup _,_=>False
 | x,v=>one v=true∧VR C x [v]
def VT (C:Cx):AV→Value→Prop
 | .tup xs,v=>∃ vs:List Value,v = .tuple vs.toArray∧xs.length=vs.length∧∀ (i:Nat) x,xs[i]? = some x→∀ y,vs[i]? = some y→VV C x y
 | x,v=>VV C x v
theorem VV.mono {C C':Cx} (h:C.Le C') {x:AV}{v:Value} (hv:VV C x v):VV C' x v:=by
 cases x <;> simp only [VV] at hv ⊢
 case agg xs=>obtain ⟨cs,e,hr⟩:=hv;exact ⟨cs,e,hr.mono h⟩
 all_goals exact ⟨hv.1,hv.2.mono h⟩
theorem VT.mono {C C':Cx} (h:C.Le C') {x:AV}{v:Value} (hv:VT C x v):VT C' x v:=by
 cases x
 case tup xs=>obtain ⟨vs,e,hl,hr⟩:=hv;exact ⟨vs,e,hl,fun i x hx y hy=>(hr i x hx y hy).mono h⟩
 all_goals first | exact VV.mono (x:=.v _) h hv | exact VV.mono (x:=.agg _) h hv | exact VV.mono (x:=.lst _ _ _) h hv | exact VV.mono (x:=.own _ _ _ _ _ _) h hv | exact VV.mono (x:=.ptr _ _ _ _) h hv | exact VV.mono (x:=.fptr _ _) h hv | exact VV.mono (x:=.mp _ _) h hv | exact VV.mono (x:=.fmp _) h hv | exact VV.mono (x:=.fn _ _ _) h hv | exact trivial
structure St where
 T:Nat→AV
 H:Nat→Option (Nat × Ob)
def St.obj (st:St) (s g:Nat):Option Ob :=
 match st.H s with
 | some (g',o)=>if g'=g then some o else none
 | none=>none
def Bn (es:Array MapEntry) (clock:Nat):Prop:=clock=es.size∧∀ (i:Nat) e,es[i]? = some e→e.born=i
def ObR (C:Cx) (L:Loc):Ob→Prop
 | .buf sz xs=>L.sz=sz∧match L.blk with
  | none=>xs=[]
  | some b => ∃ arr t, C.w.heap[b]? = some (.cells arr t (0, 0)) ∧ arr.size = L.room ∧ xs.length * sz ≤ arr.size ∧
      ∀ (j:Nat) x,xs[j]? = some x→∃ cs:List Value,cs.length=sz∧VR C x cs∧∀ (i:Nat) u,cs[i]? = some u→arr[j * sz+i]? = some u
 | .map kv => ∃ b es clock, L.blk = some b ∧ C.w.heap[b]? = some (.map es clock) ∧ (es.size = kv.length ∧ Bn es clock) ∧
     ∀ (i:Nat) p,kv[i]? = some p→∃ e cs,es[i]? = some e∧e.key=p.1∧Lay p.2 e.val cs∧VR C p.2 cs
 | .other P=>∃ b o,L.blk=some b∧C.w.heap[b]? = some o∧P o
def Owned (E:Nat→Nat→Option Loc) (b:Nat):Prop:=∃ s g L,E s g=some L∧L.blk=some b
def cx (base:Nat) (F:Fr) (E:Nat→Nat→Option Loc) (G:Nat→Prop) (w:World):Cx :=
 { E,G,w,B:=fun nw b=>b < w.heap.size∧¬ Owned E b∧(base≤b∨F.D b∨(nw=false∧F b)) }
structure Nn where
 n:Nat
 gl:List (Nat × Array Value × TypeId)
structure SimE (n:Nn) (base:Nat) (w0:World) (F:Fr) (G:Nat→Prop) (E:Nat→Nat→Option Loc) (st:St) (a:Act) (w:World):Prop where
 defers:a.defers=[]
 size:a.tmps.size=n.n
 glob:∀ p∈n.gl,F.V p.1∧∃ t,w0.heap[p.1]? = some (.cells p.2.1 t (0,0))
 below:Below 0 w0 w
 keep:∀ b,b < base→¬ F.D b→w.heap[b]? = w0.heap[b]?
 old:∀ b,F b→b < base∧¬ F.D b
 bsz:base≤w.heap.size
 dead:∀ s g,st.obj s g=none→E s g=none
 live:∀ s g o,st.obj s g=some o→G g∧∃ L,E s g=some L∧ObR (cx base F E G w) L o
 far:∀ s g L b,E s g=some L→L.blk=some b→(base≤b∨F.D b)∧b < w.heap.size
 inj:∀ s g s' g' L L' b,E s g=some L→E s' g'=some L'→L.blk=some b→L'.blk=some b→s=s'∧g=g'
 g0:G 0
 init:∀ s L,E s 0=some L→F.E0 s=some L
 tmps:∀ t,VT (cx base F E G w) (st.T t) (a.eval (.tmp t))
def Sim (n:Nn) (base:Nat) (w0:World) (F:Fr) (G:Nat→Prop) (st:St) (a:Act) (w:World):Prop:=∃ E,SimE n base w0 F G E st a w
theorem ObR.mono {C C':Cx} (h:C.Le C') {L:Loc}{o:Ob} (hb:∀ b,L.blk=some b→C'.w.heap[b]? = C.w.heap[b]?) (hr:ObR C L o):ObR C' L o:=by
 cases o with
 | buf sz xs =>
  refine ⟨hr.1,?_⟩
  have h2:=hr.2
  revert h2 hb
  cases L.blk with
  | none=>intro _ h;exact h
  | some b =>
   rintro hb ⟨arr,t,h1,h2,h3,h4⟩
   refine ⟨arr,t,(hb b rfl).trans h1,h2,h3,fun j x hx=>?_⟩
   obtain ⟨cs,a1,a2,a3⟩:=h4 j x hx
   exact ⟨cs,a1,a2.mono h,a3⟩
 | map kv =>
  obtain ⟨b,es,clock,e,h1,h2,h3⟩:=hr
  refine ⟨b,es,clock,e,(hb b e).trans h1,h2,fun i p hp=>?_⟩
  obtain ⟨en,cs,a1,a2,a3,a4⟩:=h3 i p hp
  exact ⟨en,cs,a1,a2,a3,a4.mono h⟩
 | other P =>
  obtain ⟨b,o,e,h1,h2⟩:=hr
  exact ⟨b,o,e,(hb b e).trans h1,h2⟩
theorem SimE.more {n:Nn}{base:Nat}{w0:World}{F:Fr}{G G':Nat→Prop}{E:Nat→Nat→Option Loc}{st:St}{a:Act}{w:World} (h:SimE n base w0 F G E st a w) (hG:∀ g,G g→G' g):SimE n base w0 F G' E st a w:=by
 have hle:(cx base F E G w).Le (cx base F E G' w):=⟨fun _ _ _ _ h=>h,hG,fun _ _ h=>⟨h,rfl⟩⟩
 refine { h with live:=?_,g0:=hG _ h.g0,tmps:=fun t=>(h.tmps t).mono hle }
 intro s g o ho
 obtain ⟨hg,L,hL,hr⟩:=h.live s g o ho
 exact ⟨hG _ hg,L,hL,hr.mono hle fun _ _=>rfl⟩
theorem SimE.drawn {n:Nn}{base:Nat}{w0:World}{F:Fr}{G:Nat→Prop}{E:Nat→Nat→Option Loc}{st:St}{a:Act}{w:World} (h:SimE n base w0 F G E st a w) (k:Nat):SimE n base w0 F G E st a { w with drawn:=k }:=by
 have hle:(cx base F E G w).Le (cx base F E G { w with drawn:=k }):=⟨fun _ _ _ _ h=>h,fun _ h=>h,fun _ _ h=>⟨h,rfl⟩⟩
 refine ⟨h.defers,h.size,h.glob,⟨h.below.os,h.below.tape,h.below.output,h.below.size,h.below.block⟩,h.keep,h.old,h.bsz,h.dead,?_,h.far,h.inj,h.g0,h.init,fun t=>(h.tmps t).mono hle⟩
 intro s g o ho
 obtain ⟨hg,L,hL,hr⟩:=h.live s g o ho
 exact ⟨hg,L,hL,hr.mono hle fun _ _=>rfl⟩
end Go.Ar
namespace Go.Ar
open Go.RowKit
structure Rec where
 temps:List (Nat × AV)
 reads:List (Nat × Nat × Ob)
 val:AV
 gen:Nat
 effs:List (Nat × Option (Nat × Ob))
structure Foot where
 ts:List Nat
 rd:List Nat
 wr:List Nat
def Rec.foot (r:Rec):Foot:=⟨r.temps.map (·.1),r.reads.map (·.1),r.effs.map (·.1)⟩
def upd {α:Type} (f:Nat→α) (i:Nat) (x:α):Nat→α:=fun j=>if j=i then x else f j
def effsH (es:List (Nat × Option (Nat × Ob))) (H:Nat→Option (Nat × Ob)):Nat→Option (Nat × Ob) :=
 fun s=>match es.lookup s with | some x=>x | none=>H s
def St.app (st:St) (d:Option Nat) (r:Rec):St :=
 ⟨match d with | some d=>upd st.T d r.val | none=>st.T,effsH r.effs st.H⟩
structure Pre (st:St) (r:Rec):Prop where
 temps:∀ p∈r.temps,st.T p.1=p.2
 reads:∀ p∈r.reads,st.obj p.1 p.2.1=some p.2.2
def dstOf (ops:Array Oper) (i:Nat):Option Nat:=(ops[i]?).bind (·.dst)
def OpDo (P:Program) (ops:Array Oper) (n:Nn) (i:Nat) (r:Rec):Prop :=
 ∀ base w0 F G st a w Q (K:Act→World→Prop),¬ G r.gen→Pre st r→Sim n base w0 F G st a w →
  (∀ a' w',Sim n base w0 F (fun g=>G g∨g=r.gen) (st.app (dstOf ops i) r) a' w'→K a' w')→wpOp P ops Q i K a w
def Reg (P:Program) (ops:Array Oper) (n:Nn) (c:Nat):Nat→List Oper→St→List Foot→(List Foot→St→Prop)→Prop
 | _,[],st,fs,K=>K fs.reverse st
 | k,o::rest,st,fs,K=>∃ r,OpDo P ops n k r∧r.gen=c+k∧Pre st r∧Reg P ops n c (k+1) rest (st.app o.dst r) (r.foot::fs) K
def stL (ops:Array Oper) (rs:Nat→Rec) (L:Nat→Bool) (st:St):Nat→St
 | 0=>st
 | k+1=>if L k then (stL ops rs L st k).app (dstOf ops k) (rs k) else stL ops rs L st k
theorem app_T_ne {st:St}{d:Option Nat}{r:Rec}{t:Nat} (h:d≠some t):(st.app d r).T t=st.T t:=by
 unfold St.app
 cases d with
 | none=>rfl
 | some d =>
  simp only [upd]
  rw [if_neg (fun e=>h (by rw [e]))]
theorem app_T_eq {st st':St}{d:Option Nat}{r:Rec}{t:Nat} (h:st.T t=st'.T t):(st.app d r).T t=(st'.app d r).T t:=by
 unfold St.app
 cases d with
 | none=>exact h
 | some d=>simp only [upd];split <;> first | rfl | exact h
theorem lookup_none_of {α:Type}{es:List (Nat × α)}{s:Nat} (h:s ∉ es.map (·.1)):es.lookup s=none:=by
 induction es with
 | nil=>rfl
 | cons e es ih =>
  simp only [List.map_cons,List.mem_cons,not_or] at h
  obtain ⟨a,b⟩:=e
  have:(s == a)=false:=by simpa using h.1
  simp only [List.lookup,this]
  exact ih h.2
theorem app_H_ne {st:St}{d:Option Nat}{r:Rec}{s:Nat} (h:s ∉ r.effs.map (·.1)):(st.app d r).H s=st.H s:=by
 show effsH _ _ _=_
 unfold effsH
 rw [lookup_none_of h]
theorem app_H_eq {st st':St}{d:Option Nat}{r:Rec}{s:Nat} (h:st.H s=st'.H s):(st.app d r).H s=(st'.app d r).H s:=by
 show effsH _ _ _=effsH _ _ _
 unfold effsH
 split <;> first | rfl | exact h
theorem obj_congr {st st':St}{s g:Nat} (h:st.H s=st'.H s):st.obj s g=st'.obj s g:=by simp [St.obj,h]
def indep (d:Option Nat) (f:Foot) (d':Option Nat) (f':Foot):Bool :=
 (match d with | some x=>!f'.ts.contains x && d' != some x | none=>true) &&
 (match d' with | some x=>!f.ts.contains x | none=>true) &&
 f.wr.all (fun s=>!f'.rd.contains s && !f'.wr.contains s) && f'.wr.all (fun s=>!f.rd.contains s)
structure Indep (d:Option Nat) (f:Foot) (d':Option Nat) (f':Foot):Prop where
 t1:∀ x,d=some x→x ∉ f'.ts
 dd:∀ x,d=some x→d'≠some x
 t2:∀ x,d'=some x→x ∉ f.ts
 w1:∀ s∈f.wr,s ∉ f'.rd
 ww:∀ s∈f.wr,s ∉ f'.wr
 w2:∀ s∈f'.wr,s ∉ f.rd
theorem Indep.of {d:Option Nat}{f:Foot}{d':Option Nat}{f':Foot} (h:indep d f d' f'=true):Indep d f d' f':=by
 unfold indep at h
 simp only [Bool.and_eq_true,List.all_eq_true,Bool.not_eq_true',List.contains_eq_mem,decide_eq_false_iff_not] at h
 obtain ⟨⟨⟨h1,h2⟩,h3⟩,h4⟩:=h
 refine ⟨?_,?_,?_,fun s hs=>(h3 s hs).1,fun s hs=>(h3 s hs).2,h4⟩
 ·rintro x rfl;simpa using (by simpa using h1:x ∉ f'.ts∧_).1
 ·rintro x rfl;simpa using (by simpa using h1:_∧¬ d'=some x).2
 ·rintro x rfl;simpa using h2
theorem app_comm {st:St}{d d':Option Nat}{r r':Rec} (h:Indep d r.foot d' r'.foot):(st.app d r).app d' r'=(st.app d' r').app d r:=by
 have hT:((st.app d r).app d' r').T=((st.app d' r').app d r).T:=by
  funext t
  by_cases e:d=some t
  ·rw [app_T_ne (h.dd t e)]
   exact app_T_eq (by
    cases d' with
    | none=>rfl
    | some x=>exact (app_T_ne (h.dd t e)).symm)
  ·rw [app_T_ne (t:=t) (d:=d) e]
   exact app_T_eq (app_T_ne e)
 have hH:((st.app d r).app d' r').H=((st.app d' r').app d r).H:=by
  funext s
  by_cases e:s∈r.effs.map (·.1)
  ·have:s ∉ r'.effs.map (·.1):=h.ww s e
   rw [app_H_ne this]
   exact app_H_eq (app_H_ne this).symm
  ·rw [app_H_ne (d:=d) e]
   exact app_H_eq (app_H_ne e)
 generalize hx:(st.app d r).app d' r'=x at *
 generalize hy:(st.app d' r').app d r=y at *
 cases x;cases y
 simp only at hT hH
 subst hT;subst hH;rfl
def deps1 (acc:List (List Nat)) (o:Oper):List Nat :=
 (o.after.toList.filter fun e=>Region.binds .any e).flatMap fun e=>e.on::acc.getD e.on []
def depsFrom:List Oper→List (List Nat)→List (List Nat)
 | [],acc=>acc
 | o::rest,acc=>depsFrom rest (acc++[(deps1 acc o).eraseDups])
def depsOf (ops:List Oper):List (List Nat):=depsFrom ops []
def okEdges (ops:List Oper):Bool:=ops.zipIdx.all fun p=>p.1.after.all fun e=>!Region.binds .any e || decide (e.on < p.2)
def okPairs (ds:List (Option Nat)) (fs:List Foot) (deps:List (List Nat)) (n:Nat):Bool :=
 (List.range n).all fun j=>(List.range j).all fun i=>(deps.getD j []).contains i || indep (ds.getD i none) (fs.getD i ⟨[],[],[]⟩) (ds.getD j none) (fs.getD j ⟨[],[],[]⟩)
def okDraw (ops:List Oper) (fs:List Foot):Bool:=okEdges ops && okPairs (ops.map (·.dst)) fs (depsOf ops) ops.length
def Closed (ops:Array Oper) (L:Nat→Bool):Prop:=∀ j o,ops[j]? = some o→L j=true→∀ e∈o.after,Region.binds .any e=true→L e.on=true
theorem depsFrom_closed {ops : Array Oper} {L : Nat → Bool} (hL : Closed ops L) : ∀ (rest : List Oper) (acc : List (List Nat)), ops.toList = ops.toList.take acc.length ++ rest → acc.length ≤ ops.size →
    (∀ j i,i∈acc.getD j []→L j=true→L i=true)→∀ j i,i∈(depsFrom rest acc).getD j []→L j=true→L i=true:=by
 intro rest
 induction rest with
 | nil=>intro acc _ _ h;exact h
 | cons o rest ih =>
  intro acc hs hlen h
  have hlt:acc.length < ops.size:=by
   have:=congrArg List.length hs
   simp only [List.length_append,List.length_take,List.length_cons,Array.length_toList] at this
   omega
  have ho:ops[acc.length]? = some o:=by
   have h1:ops.toList[acc.length]? = some o:=by
    rw [hs,List.getElem?_append_right (List.length_take_le _ _)]
    simp only [List.length_take,Array.length_toList]
    rw [Nat.min_eq_left hlen]
    simp
   simpa using h1
  refine ih _ ?_ (by simp;omega) ?_
  ·rw [List.length_append,List.length_singleton,List.take_add_one]
   have:ops.toList[acc.length]? = some o:=by simpa using ho
   rw [this]
   simp only [Option.toList_some,List.append_assoc,List.singleton_append]
   exact hs
  ·intro j i hi hj
   rcases Nat.lt_trichotomy j acc.length with hjl | rfl | hjl
   ·rw [List.getD_eq_getElem?_getD,List.getElem?_append_left hjl,← List.getD_eq_getElem?_getD] at hi
    exact h j i hi hj
   ·rw [List.getD_eq_getElem?_getD,List.getElem?_append_right (Nat.le_refl _)] at hi
    simp only [Nat.sub_self,List.getElem?_cons_zero,Option.getD_some,List.mem_eraseDups] at hi
    obtain ⟨e,he,hi⟩:=List.mem_flatMap.1 hi
    obtain ⟨he,hb⟩:=List.mem_filter.1 he
    have hon:=hL _ o ho hj e (by simpa using he) hb
    rcases List.mem_cons.1 hi with rfl | hi
    ·exact hon
    ·exact h e.on i hi hon
   ·rw [List.getD_eq_getElem?_getD,List.getElem?_eq_none (by simp;omega)] at hi
    cases hi
theorem depsOf_closed {ops:Array Oper}{L:Nat→Bool} (hL:Closed ops L) {j i:Nat} (hi:i∈(depsOf ops.toList).getD j []) (hj:L j=true):L i=true :=
 depsFrom_closed hL ops.toList [] (by simp) (by simp) (by intro j i h;simp at h) j i hi hj
end Go.Ar
namespace Go.Ar
open Go.RowKit
def r0:Rec:=⟨[],[],.any,0,[]⟩
def fwd (ops:Array Oper) (rs:Nat→Rec) (st:St) (k:Nat):Nat→St
 | 0=>st
 | m+1=>(fwd ops rs st k m).app (dstOf ops (k+m)) (rs (k+m))
theorem fwd_succ (ops:Array Oper) (rs:Nat→Rec) (st:St) (k m:Nat):fwd ops rs (st.app (dstOf ops k) (rs k)) (k+1) m=fwd ops rs st k (m+1):=by
 induction m with
 | zero=>rfl
 | succ m ih =>
  show (fwd ops rs _ (k+1) m).app _ _=(fwd ops rs st k (m+1)).app _ _
  rw [ih]
  have e:k+1+m=k+(m+1):=by omega
  rw [e]
theorem fwd_stL (ops:Array Oper) (rs:Nat→Rec) (st:St) (m:Nat):fwd ops rs st 0 m=stL ops rs (fun _=>true) st m:=by
 induction m with
 | zero=>rfl
 | succ m ih=>simp only [fwd,stL,if_true,ih,Nat.zero_add]
theorem dstOf_of {ops:Array Oper}{k:Nat}{o:Oper}{rest:List Oper} (h:ops.toList.drop k=o::rest):dstOf ops k=o.dst∧ops[k]? = some o∧ops.toList.drop (k+1)=rest∧k < ops.size:=by
 have hlt:k < ops.toList.length:=by
  refine Nat.lt_of_not_le fun hle=>?_
  rw [List.drop_eq_nil_of_le hle] at h
  cases h
 rw [List.drop_eq_getElem_cons hlt] at h
 simp only [List.cons.injEq] at h
 have h1:ops[k]? = some o:=by
  have:ops.toList[k]? = some o:=by rw [List.getElem?_eq_getElem hlt,h.1]
  simpa using this
 exact ⟨by simp [dstOf,h1],h1,h.2,by simpa using hlt⟩
theorem reg_recs {P : Program} {ops : Array Oper} {n : Nn} {c : Nat} {K : List Foot → St → Prop} : ∀ (rest : List Oper) (k : Nat) (st : St) (fs : List Foot) (pre : List Rec), ops.toList.drop k = rest → k ≤ ops.size →
    pre.length=k→fs.reverse=pre.map Rec.foot→Reg P ops n c k rest st fs K →
    ∃ rs:List Rec,rs.length=ops.size∧pre=rs.take k∧(∀ i,k≤i→i < ops.size→OpDo P ops n i (rs.getD i r0)∧(rs.getD i r0).gen=c+i∧Pre (fwd ops (rs.getD · r0) st k (i - k)) (rs.getD i r0)) ∧
     K (rs.map Rec.foot) (fwd ops (rs.getD · r0) st k (ops.size - k)):=by
 intro rest
 induction rest with
 | nil =>
  intro k st fs pre hd hk hp hf h
  have hk':k=ops.size:=by
   have:=congrArg List.length hd
   simp at this
   omega
  subst hk'
  refine ⟨pre,hp,by rw [← hp,List.take_length],fun i h1 h2=>by omega,?_⟩
  simp only [Reg] at h
  rw [hf] at h
  simpa [fwd] using h
 | cons o rest ih =>
  intro k st fs pre hd hk hp hf h
  obtain ⟨hdst,ho,hd',hlt⟩:=dstOf_of hd
  simp only [Reg] at h
  obtain ⟨r,hdo,hg,hpre,h⟩:=h
  obtain ⟨rs,hl,hpre',hall,hK⟩:=ih (k+1) (st.app o.dst r) (r.foot::fs) (pre++[r]) hd' hlt (by simp [hp]) (by simp [hf]) h
  have hr:rs.getD k r0=r:=by
   have h1:(pre++[r])[k]? = some r:=by rw [List.getElem?_append_right (by omega)];simp [hp]
   rw [hpre',List.getElem?_take] at h1
   split at h1
   ·rw [List.getD_eq_getElem?_getD,h1];rfl
   ·cases h1
  have hpk:pre=rs.take k:=by
   have:=congrArg (List.take k) hpre'
   rw [List.take_take,Nat.min_eq_left (Nat.le_succ k)] at this
   rw [← this,← hp,List.take_left]
  have hst:st.app o.dst r=st.app (dstOf ops k) ((rs.getD · r0) k):=by rw [hdst];simp only [hr]
  refine ⟨rs,hl,hpk,fun i h1 h2=>?_,?_⟩
  ·rcases Nat.eq_or_lt_of_le h1 with rfl | h1
   ·rw [hr,Nat.sub_self]
    exact ⟨hdo,hg,hpre⟩
   ·have:=hall i h1 h2
    rw [hst,fwd_succ] at this
    have e:i - (k+1)+1=i - k:=by omega
    rw [e] at this
    exact this
  ·rw [hst,fwd_succ] at hK
   have e:ops.size - (k+1)+1=ops.size - k:=by omega
   rw [e] at hK
   exact hK
structure Recs (P:Program) (ops:Array Oper) (n:Nn) (c:Nat) (st:St) (rs:Nat→Rec):Prop where
 ok:∀ i,i < ops.size→OpDo P ops n i (rs i)∧(rs i).gen=c+i∧Pre (stL ops rs (fun _=>true) st i) (rs i)
theorem reg_all {P : Program} {ops : Array Oper} {n : Nn} {c : Nat} {st : St} {K : List Foot → St → Prop} (h : Reg P ops n c 0 ops.toList st [] K) :
    ∃ rs:List Rec,rs.length=ops.size∧Recs P ops n c st (rs.getD · r0)∧K (rs.map Rec.foot) (stL ops (rs.getD · r0) (fun _=>true) st ops.size):=by
 obtain ⟨rs,hl,_,hall,hK⟩:=reg_recs ops.toList 0 st [] [] (by simp) (Nat.zero_le _) rfl rfl h
 refine ⟨rs,hl,⟨fun i hi=>?_⟩,?_⟩
 ·have:=hall i (Nat.zero_le _) hi
  rw [Nat.sub_zero,fwd_stL] at this
  exact this
 ·rw [Nat.sub_zero,fwd_stL] at hK
  exact hK
def GL (c:Nat) (L:Nat→Bool):Nat→Prop:=fun g=>g < c∨∃ i,L i=true∧g=c+i
theorem recs_text {P : Program} {ops : Array Oper} {n : Nn} {c base : Nat} {w0 : World} {F : Fr} {st : St} {rs : Nat → Rec} (h : Recs P ops n c st rs) {Q : Exit → Act → World → Prop}
    (hQ:∀ a w,Sim n base w0 F (fun g=>g < c+ops.size) (stL ops rs (fun _=>true) st ops.size) a w→Q .normal a w) :
    ∀ m k a w,k+m=ops.size→Sim n base w0 F (fun g=>g < c+k) (stL ops rs (fun _=>true) st k) a w→wpOps P ops Q (List.range' k m) a w:=by
 intro m
 induction m with
 | zero =>
  intro k a w hk hs
  simp only [List.range'_zero,wpOps]
  have:k=ops.size:=by omega
  subst this
  exact hQ a w hs
 | succ m ih =>
  intro k a w hk hs
  rw [List.range'_succ,wpOps_cons]
  obtain ⟨hdo,hg,hp⟩:=h.ok k (by omega)
  refine hdo base w0 F _ _ a w Q _ (by rw [hg];omega) hp hs fun a' w' hs'=>?_
  refine ih (k+1) a' w' (by omega) ?_
  obtain ⟨E,hs'⟩:=hs'
  refine ⟨E,?_⟩
  have:stL ops rs (fun _=>true) st (k+1)=(stL ops rs (fun _=>true) st k).app (dstOf ops k) (rs k):=by simp [stL]
  rw [this]
  exact hs'.more fun g hg'=>by
   rcases hg' with h | h
   ·omega
   ·rw [hg] at h;omega
theorem wp_reg {P : Program} {id : Nat} {ops : Array Oper} {n : Nn} {c base : Nat} {w0 : World} {F : Fr} {st : St} {a : Act} {w : World} {Q : Exit → Act → World → Prop}
    (h:Reg P ops n c 0 ops.toList st [] fun _ st'=>∀ a' w',Sim n base w0 F (fun g=>g < c+ops.size) st' a' w'→Q .normal a' w')
    (hs:Sim n base w0 F (fun g=>g < c) st a w):(Code.region id ops false).wp P Q a w:=by
 obtain ⟨rs,_,hr,hK⟩:=reg_all h
 refine wp_region ?_
 rw [List.range_eq_range']
 exact recs_text hr hK ops.size 0 a w (by omega) hs
end Go.Ar
namespace Go.Ar
open Go.RowKit
def with1 (L:Nat→Bool) (i:Nat):Nat→Bool:=fun k=>L k || k == i
section
variable {ops : Array Oper} {rs : Nat → Rec} {L : Nat → Bool} {st : St} {i n : Nat}
def Pairs (ops:Array Oper) (rs:Nat→Rec):Prop :=
 ∀ i j,i < j→j < ops.size→i∈(depsOf ops.toList).getD j []∨Indep (dstOf ops i) (rs i).foot (dstOf ops j) (rs j).foot
theorem agree_T (hp : Pairs ops rs) (hi : i < ops.size) (hL : Closed ops L) (hL' : Closed ops (with1 L i)) (hn : L i = false) {t : Nat} (ht : t ∈ (rs i).foot.ts) :
    (stL ops rs L st ops.size).T t=(stL ops rs (fun _=>true) st i).T t:=by
 have h1:∀ k,k≤i→(stL ops rs L st k).T t=(stL ops rs (fun _=>true) st k).T t:=by
  intro k
  induction k with
  | zero=>intro _;rfl
  | succ k ih =>
   intro hk
   have ihk:=ih (by omega)
   by_cases hd:dstOf ops k=some t
   ·have hin:k∈(depsOf ops.toList).getD i []:=by
     rcases hp k i (by omega) hi with h | h
     ·exact h
     ·exact absurd ht (h.t1 t hd)
    have:=depsOf_closed hL' hin (by simp [with1])
    have hLk:L k=true:=by
     simp only [with1,Bool.or_eq_true,beq_iff_eq] at this
     rcases this with h | h
     ·exact h
     ·omega
    simp only [stL,hLk,if_true]
    exact app_T_eq ihk
   ·simp only [stL,if_true]
    rw [app_T_ne (d:=dstOf ops k) hd]
    split
    ·rw [app_T_ne hd];exact ihk
    ·exact ihk
 have h2:∀ m,i+m≤ops.size→(stL ops rs L st (i+m)).T t=(stL ops rs L st i).T t:=by
  intro m
  induction m with
  | zero=>intro _;rfl
  | succ m ih =>
   intro hm
   rw [← ih (by omega)]
   show (if L (i+m) then _ else _:St).T t=_
   split
   ·rename_i hLm
    refine app_T_ne fun hd=>?_
    have hne:i≠i+m:=by
     intro e
     rw [← e,hn] at hLm
     cases hLm
    rcases hp i (i+m) (by omega) (by omega) with h | h
    ·have:=depsOf_closed hL h hLm
     rw [hn] at this
     cases this
    ·exact absurd ht (h.t2 t hd)
   ·rfl
 have:=h2 (ops.size - i) (by omega)
 rw [show i+(ops.size - i)=ops.size from by omega] at this
 rw [this]
 exact h1 i (Nat.le_refl _)
theorem agree_H (hp : Pairs ops rs) (hi : i < ops.size) (hL : Closed ops L) (hL' : Closed ops (with1 L i)) (hn : L i = false) {s : Nat} (hs : s ∈ (rs i).foot.rd) :
    (stL ops rs L st ops.size).H s=(stL ops rs (fun _=>true) st i).H s:=by
 have h1:∀ k,k≤i→(stL ops rs L st k).H s=(stL ops rs (fun _=>true) st k).H s:=by
  intro k
  induction k with
  | zero=>intro _;rfl
  | succ k ih =>
   intro hk
   have ihk:=ih (by omega)
   by_cases hd:s∈(rs k).foot.wr
   ·have hin:k∈(depsOf ops.toList).getD i []:=by
     rcases hp k i (by omega) hi with h | h
     ·exact h
     ·exact absurd hs (h.w1 s hd)
    have:=depsOf_closed hL' hin (by simp [with1])
    have hLk:L k=true:=by
     simp only [with1,Bool.or_eq_true,beq_iff_eq] at this
     rcases this with h | h
     ·exact h
     ·omega
    simp only [stL,hLk,if_true]
    exact app_H_eq ihk
   ·simp only [stL,if_true]
    rw [app_H_ne (r:=rs k) hd]
    split
    ·rw [app_H_ne (r:=rs k) hd];exact ihk
    ·exact ihk
 have h2:∀ m,i+m≤ops.size→(stL ops rs L st (i+m)).H s=(stL ops rs L st i).H s:=by
  intro m
  induction m with
  | zero=>intro _;rfl
  | succ m ih =>
   intro hm
   rw [← ih (by omega)]
   show (if L (i+m) then _ else _:St).H s=_
   split
   ·rename_i hLm
    refine app_H_ne fun hd=>?_
    have hne:i≠i+m:=by
     intro e
     rw [← e,hn] at hLm
     cases hLm
    rcases hp i (i+m) (by omega) (by omega) with h | h
    ·have:=depsOf_closed hL h hLm
     rw [hn] at this
     cases this
    ·exact absurd hs (h.w2 s hd)
   ·rfl
 have:=h2 (ops.size - i) (by omega)
 rw [show i+(ops.size - i)=ops.size from by omega] at this
 rw [this]
 exact h1 i (Nat.le_refl _)
theorem app_with (hp : Pairs ops rs) (hi : i < ops.size) (hL : Closed ops L) (hn : L i = false) :
    (stL ops rs L st ops.size).app (dstOf ops i) (rs i)=stL ops rs (with1 L i) st ops.size:=by
 have h1:∀ k,k≤i→stL ops rs (with1 L i) st k=stL ops rs L st k:=by
  intro k
  induction k with
  | zero=>intro _;rfl
  | succ k ih =>
   intro hk
   have:with1 L i k=L k:=by
    have:(k == i)=false:=by simp;omega
    simp [with1,this]
   simp only [stL,this,ih (by omega)]
 have h2:∀ m,i+1+m≤ops.size→(stL ops rs L st (i+1+m)).app (dstOf ops i) (rs i)=stL ops rs (with1 L i) st (i+1+m):=by
  intro m
  induction m with
  | zero =>
   intro _
   have:with1 L i i=true:=by simp [with1]
   simp only [stL,this,if_true,hn,h1 i (Nat.le_refl _),Bool.false_eq_true,if_false]
  | succ m ih =>
   intro hm
   have e:with1 L i (i+1+m)=L (i+1+m):=by
    have:(i+1+m == i)=false:=by simp;omega
    simp [with1,this]
   have s1:stL ops rs L st (i+1+(m+1))=if L (i+1+m) then (stL ops rs L st (i+1+m)).app (dstOf ops (i+1+m)) (rs (i+1+m)) else stL ops rs L st (i+1+m):=rfl
   have s2:stL ops rs (with1 L i) st (i+1+(m+1))=if with1 L i (i+1+m) then (stL ops rs (with1 L i) st (i+1+m)).app (dstOf ops (i+1+m)) (rs (i+1+m)) else stL ops rs (with1 L i) st (i+1+m):=rfl
   rw [s1,s2,e,← ih (by omega)]
   split
   ·rename_i hLm
    rcases hp i (i+1+m) (by omega) (by omega) with h | h
    ·have:=depsOf_closed hL h hLm
     rw [hn] at this
     cases this
    ·exact (app_comm h).symm
   ·rfl
 have:=h2 (ops.size - (i+1)) (by omega)
 rwa [show i+1+(ops.size - (i+1))=ops.size from by omega] at this
end
theorem countP_le_of {α:Type}{p q:α→Bool}{l:List α} (h:∀ x,p x=true→q x=true):l.countP p≤l.countP q:=by
 induction l with
 | nil=>simp
 | cons a l ih =>
  simp only [List.countP_cons]
  have:=h a
  cases hp:p a <;> cases hq:q a <;> simp_all <;> omega
theorem countP_lt {α:Type}{p q:α→Bool}{l:List α}{i:α} (hi:i∈l) (h1:q i=true) (h2:p i=false) (h:∀ x,p x=true→q x=true):l.countP p < l.countP q:=by
 induction l with
 | nil=>cases hi
 | cons a l ih =>
  simp only [List.countP_cons]
  have hle:=countP_le_of (l:=l) h
  have ha:=h a
  rcases List.mem_cons.1 hi with rfl | hi
  ·simp [h1,h2];omega
  ·have:=ih hi
   cases hp:p a <;> cases hq:q a <;> simp_all <;> omega
def listL (l:Array Bool):Nat→Bool:=fun k=>l.getD k false
theorem pairs_of {ops:Array Oper}{rs:List Rec} (hl:rs.length=ops.size) (h:okDraw ops.toList (rs.map Rec.foot)=true):Pairs ops (rs.getD · r0)∧(∀ j o,ops[j]? = some o→∀ e∈o.after,Region.binds .any e=true→e.on < j):=by
 unfold okDraw at h
 obtain ⟨h1,h2⟩:=Bool.and_eq_true_iff.1 h
 constructor
 ·intro i j hij hj
  have:=List.all_eq_true.1 h2 j (by simpa using hj)
  have:=List.all_eq_true.1 this i (by simpa using hij)
  simp only [Bool.or_eq_true,List.contains_eq_mem,decide_eq_true_eq] at this
  refine this.imp id fun h=>?_
  have hd:∀ k,k < ops.size→(ops.toList.map (·.dst)).getD k none=dstOf ops k:=by
   intro k hk
   simp [dstOf,List.getD_eq_getElem?_getD,hk]
  have hf:∀ k,k < ops.size→(rs.map Rec.foot).getD k ⟨[],[],[]⟩=(rs.getD k r0).foot:=by
   intro k hk
   simp [List.getD_eq_getElem?_getD,List.getElem?_eq_getElem (show k < rs.length by omega)]
  rw [hd i (by omega),hd j hj,hf i (by omega),hf j hj] at h
  exact Indep.of h
 ·intro j o ho e he hb
  unfold okEdges at h1
  have hm:(o,j)∈ops.toList.zipIdx:=by
   rw [List.mem_iff_getElem?]
   refine ⟨j,?_⟩
   rw [List.getElem?_zipIdx]
   simp [ho]
  have:=List.all_eq_true.1 h1 _ hm
  have:=Array.all_eq_true'.1 this e he
  simpa [hb] using this
theorem wp_reg_draw {P : Program} (hm : P.follows .mixedOrders = true) {id : Nat} {ops : Array Oper} {n : Nn} {c base : Nat} {w0 : World} {F : Fr} {st : St} {a : Act} {w : World} {Q : Exit → Act → World → Prop}
    (h:Reg P ops n c 0 ops.toList st [] fun fs st'=>okDraw ops.toList fs=true∧∀ a' w',Sim n base w0 F (fun g=>g < c+ops.size) st' a' w'→Q .normal a' w')
    (hs:Sim n base w0 F (fun g=>g < c) st a w):(Code.region id ops true).wp P Q a w:=by
 obtain ⟨rs,hl,hr,hok,hQ⟩:=reg_all h
 obtain ⟨hp,hedge⟩:=pairs_of hl hok
 generalize (rs.getD · r0)=R at hr hQ hp
 refine wp_region_any hm ?_
 have hs':Sim n base w0 F (fun g=>g < c) st a { w with drawn:=w.drawn+1 }:=by
  obtain ⟨E,hs⟩:=hs
  exact ⟨E,hs.drawn _⟩
 have key : ∀ (fuel : Nat) (l : Array Bool) (a : Act) (w : World), l.size = ops.size → Closed ops (listL l) → ((List.range ops.size).countP fun k => !listL l k) ≤ fuel →
     Sim n base w0 F (GL c (listL l)) (stL ops R (listL l) st ops.size) a w→wpAny P .any ops Q fuel l a w:=by
  have hdone:∀ (l:Array Bool) (a:Act) (w:World),l.size=ops.size→(∀ k,k < ops.size→listL l k=true)→Sim n base w0 F (GL c (listL l)) (stL ops R (listL l) st ops.size) a w→Q .normal a w:=by
   intro l a w hsz hall hs
   have e:∀ k,k≤ops.size→stL ops R (listL l) st k=stL ops R (fun _=>true) st k:=by
    intro k
    induction k with
    | zero=>intro _;rfl
    | succ k ih=>intro hk;simp only [stL,hall k (by omega),if_true,ih (by omega)]
   rw [e _ (Nat.le_refl _)] at hs
   obtain ⟨E,hs⟩:=hs
   refine hQ a w ⟨E,hs.more fun g hg=>?_⟩
   rcases hg with h | ⟨i,hi,rfl⟩
   ·omega
   ·have:i < l.size:=by
     refine Nat.lt_of_not_le fun hle=>?_
     simp [listL,Array.getD,Nat.not_lt.2 hle] at hi
    omega
  have hnone:∀ (l:Array Bool),l.size=ops.size→Region.ready .any ops l=[]→∀ k,k < ops.size→listL l k=true:=by
   intro l hsz hr k
   induction k using Nat.strongRecOn with
   | _ k ih =>
    intro hk
    refine Classical.byContradiction fun hne=>?_
    have hne:listL l k=false:=by simpa using hne
    have:k∈Region.ready .any ops l:=by
     refine mem_ready.2 ⟨?_,ops[k],Array.getElem?_eq_getElem hk,fun e he hb=>?_⟩
     ·have hkl:k < l.size:=by omega
      simpa [listL,Array.getD,hkl] using hne
     ·exact ih e.on (hedge k _ (Array.getElem?_eq_getElem hk) e he hb) (by have:=hedge k _ (Array.getElem?_eq_getElem hk) e he hb;omega)
    rw [hr] at this
    cases this
  intro fuel
  induction fuel with
  | zero =>
   intro l a w hsz hcl hf hs
   have hall:∀ k,k < ops.size→listL l k=true:=by
    intro k hk
    have:(List.range ops.size).countP (fun k=>!listL l k)=0:=by omega
    have:=List.countP_eq_zero.1 this k (by simpa using hk)
    simpa using this
   refine ⟨?_,hdone l a w hsz hall hs⟩
   refine List.eq_nil_iff_forall_not_mem.2 fun k hk=>?_
   obtain ⟨h1,o,ho,_⟩:=mem_ready.1 hk
   have hk:k < ops.size:=(Array.getElem?_eq_some_iff.1 ho).1
   have:=hall k hk
   have hkl:k < l.size:=by omega
   simp [listL,Array.getD,hkl] at this h1
   rw [h1] at this
   cases this
  | succ fuel ih =>
   intro l a w hsz hcl hf hs
   refine ⟨fun hr=>hdone l a w hsz (hnone l hsz hr) hs,fun i hi=>?_⟩
   obtain ⟨hn,oi,hoi,hall⟩:=mem_ready.1 hi
   have hi:i < ops.size:=(Array.getElem?_eq_some_iff.1 hoi).1
   have hil:i < l.size:=by omega
   have hnl:listL l i=false:=by simpa [listL,Array.getD,hil] using hn
   have hset:listL (l.setIfInBounds i true)=with1 (listL l) i:=by
    funext k
    unfold with1 listL
    by_cases e:k=i
    ·subst e;simp [Array.getD,hil]
    ·rw [getD_set_ne false (Ne.symm e)]
     have:(k == i)=false:=by simpa using e
     simp [this]
   have hcl':Closed ops (with1 (listL l) i):=by
    intro j o ho hj e he hb
    simp only [with1,Bool.or_eq_true,beq_iff_eq] at hj ⊢
    rcases hj with hj | rfl
    ·exact .inl (hcl j o ho hj e he hb)
    ·have:o=oi:=Option.some.inj (ho.symm.trans hoi)
     subst this
     exact .inl (hall e he hb)
   obtain ⟨hdo,hg,hpre⟩:=hr.ok i hi
   have hpre':Pre (stL ops R (listL l) st ops.size) (R i):=by
    refine ⟨fun p hp'=>?_,fun p hp'=>?_⟩
    ·rw [agree_T hp hi hcl hcl' hnl (List.mem_map.2 ⟨p,hp',rfl⟩)]
     exact hpre.temps p hp'
    ·rw [obj_congr (agree_H hp hi hcl hcl' hnl (List.mem_map.2 ⟨p,hp',rfl⟩))]
     exact hpre.reads p hp'
   refine hdo base w0 F _ _ a w Q _ ?_ hpre' hs fun a' w' hs2=>?_
   ·rw [hg]
    rintro (h | ⟨k,hk,e⟩)
    ·omega
    ·have:k=i:=by omega
     subst this
     rw [hnl] at hk
     cases hk
   ·rw [app_with hp hi hcl hnl] at hs2
    refine ih _ a' w' (by simpa using hsz) (by rw [hset];exact hcl') ?_ ?_
    ·rw [hset]
     have hlt:(List.range ops.size).countP (fun k=>!with1 (listL l) i k) < (List.range ops.size).countP (fun k=>!listL l k):=by
      refine countP_lt (i:=i) (by simpa using hi) (by simpa using hnl) (by simp [with1]) fun k hk=>?_
      simp only [with1,Bool.not_eq_true',Bool.or_eq_false_iff] at hk
      simpa using hk.1
     omega
    ·rw [hset]
     obtain ⟨E,hs2⟩:=hs2
     refine ⟨E,hs2.more fun g h=>?_⟩
     rcases h with (h | ⟨k,hk,e⟩) | h
     ·exact .inl h
     ·exact .inr ⟨k,by simp [with1,hk],e⟩
     ·exact .inr ⟨i,by simp [with1],by rw [h,hg]⟩
 have hnot:listL (Array.replicate ops.size false)=fun _=>false:=by
  funext k
  unfold listL
  rcases Nat.lt_or_ge k ops.size with h | h
  ·simp [Array.getD,h]
  ·simp [Array.getD,Nat.not_lt.2 h]
 refine key ops.size _ a _ (by simp) ?_ ?_ ?_
 ·rw [hnot]
  intro j o _ hj
  cases hj
 ·exact Nat.le_trans List.countP_le_length (by simp)
 ·rw [hnot]
  have e:∀ k,stL ops R (fun _=>false) st k=st:=by
   intro k
   induction k with
   | zero=>rfl
   | succ k ih=>simpa [stL] using ih
  rw [e]
  obtain ⟨E,hs'⟩:=hs'
  exact ⟨E,hs'.more fun g h=>.inl h⟩
end Go.Ar
namespace Go.Ar
open Go.RowKit
abbrev TL:=List (Nat × AV)
abbrev HL:=List (Nat × Option (Nat × Ob))
def lookT (T:TL) (t:Nat):AV:=(T.lookup t).getD .any
def lookH (H:HL) (s:Nat):Option (Nat × Ob):=(H.lookup s).getD none
def mk (T:TL) (H:HL):St:=⟨lookT T,lookH H⟩
inductive Look:TL→Nat→AV→Prop
 | here (t x T):Look ((t,x)::T) t x
 | there (t x T u y):u≠t→Look T u y→Look ((t,x)::T) u y
theorem Look.eq {T:TL}{t:Nat}{x:AV} (h:Look T t x):lookT T t=x:=by
 induction h with
 | here=>simp [lookT]
 | there t x T u y hne _ ih =>
  have:(u == t)=false:=by simpa using hne
  simpa [lookT,List.lookup,this] using ih
inductive Hook:HL→Nat→Nat→Ob→Prop
 | here (s g o H):Hook ((s,some (g,o))::H) s g o
 | there (s x H u g o):u≠s→Hook H u g o→Hook ((s,x)::H) u g o
theorem Hook.eq {H:HL}{s g:Nat}{o:Ob} (h:Hook H s g o):lookH H s=some (g,o):=by
 induction h with
 | here=>simp [lookH]
 | there s x H u g o hne _ ih =>
  have:(u == s)=false:=by simpa using hne
  simpa [lookH,List.lookup,this] using ih
theorem Hook.obj {T:TL}{H:HL}{s g:Nat}{o:Ob} (h:Hook H s g o):(mk T H).obj s g=some o:=by
 simp [St.obj,mk,h.eq]
theorem lookT_cons (d:Nat) (x:AV) (T:TL):lookT ((d,x)::T)=upd (lookT T) d x:=by
 funext t
 unfold lookT upd
 by_cases h:t=d
 ·subst h;simp
 ·have:(t == d)=false:=by simpa using h
  simp [List.lookup,this,h]
theorem app_mk (T:TL) (H:HL) (d:Nat) (r:Rec):(mk T H).app (some d) r=mk ((d,r.val)::T) (r.effs++H):=by
 unfold St.app mk
 simp only [lookT_cons]
 congr 1
 funext s
 unfold effsH lookH
 rw [List.lookup_append]
 cases r.effs.lookup s <;> simp
theorem app_mk0 (T:TL) (H:HL) (r:Rec):(mk T H).app none r=mk T (r.effs++H):=by
 unfold St.app mk
 simp only
 congr 1
 funext s
 unfold effsH lookH
 rw [List.lookup_append]
 cases r.effs.lookup s <;> simp
def Opd (r:Rec):Operand→AV→Prop
 | .tmp t,y=>(t,y)∈r.temps
 | .const v,y=>∀ C,VT C y v
 | .global _,y=>y = .any
 | .func f,y=>y = .fn (.func f) [] []
section
variable {n : Nn} {base : Nat} {w0 : World} {F : Fr} {G : Nat → Prop} {E : Nat → Nat → Option Loc} {st : St} {a : Act} {w : World}
theorem VT.any (C:Cx) (v:Value):VT C .any v:=trivial
theorem SimE.opd (h:SimE n base w0 F G E st a w) {r:Rec} (hp:Pre st r) {x:Operand}{y:AV} (hx:Opd r x y):VT (cx base F E G w) y (a.eval x):=by
 cases x with
 | tmp t =>
  have:=hp.temps _ hx
  have h2:=h.tmps t
  rw [this] at h2
  exact h2
 | const v=>exact hx _
 | global g=>cases hx;exact VT.any _ _
 | func f =>
  cases hx
  exact ⟨rfl,.fn _ _ _ [] [] rfl rfl (by simp) (by simp) (by simp) (by simp)⟩
theorem put_eval (a:Act) (d:Option Nat) (v:Value) (t:Nat):(a.put d v).eval (.tmp t)=if d=some t∧t < a.tmps.size then v else a.eval (.tmp t):=by
 unfold Act.put Act.eval
 cases d with
 | none=>simp
 | some d =>
  simp only [Array.getD_eq_getD_getElem?,Array.getElem?_setIfInBounds,Option.some.injEq]
  by_cases h:d=t
  ·subst h
   by_cases hd:d < a.tmps.size
   ·simp [hd]
   ·simp [hd]
  ·simp [h]
theorem lookup_kill {ks:List Nat}{s:Nat} (h:s∈ks):(ks.map fun k=>(k,(none:Option (Nat × Ob)))).lookup s=some none:=by
 induction ks with
 | nil=>cases h
 | cons k ks ih =>
  by_cases e:s=k
  ·subst e;simp
  ·have e4:(s == k)=false:=by simpa using e
   simp only [List.map_cons,List.lookup,e4]
   exact ih (by simpa [e] using h)
theorem SimE.step (h : SimE n base w0 F G E st a w) {G' : Nat → Prop} {E' : Nat → Nat → Option Loc} {w' : World} {dst : Option Nat} {r : Rec} {v : Value}
    (hle:(cx base F E G w).Le (cx base F E' G' w')) (hb:Below 0 w w') (hd:∀ d,dst=some d→d < n.n)
    (hkeep:∀ b,b < base→¬ F.D b→w'.heap[b]? = w.heap[b]?)
    (hdead:∀ s g,(st.app dst r).obj s g=none→E' s g=none)
    (hlive:∀ s g o,(st.app dst r).obj s g=some o→G' g∧∃ L,E' s g=some L∧ObR (cx base F E' G' w') L o)
    (hfar:∀ s g L b,E' s g=some L→L.blk=some b→(base≤b∨F.D b)∧b < w'.heap.size)
    (hinj:∀ s g s' g' L L' b,E' s g=some L→E' s' g'=some L'→L.blk=some b→L'.blk=some b→s=s'∧g=g')
    (hg0:G' 0) (hinit:∀ s L,E' s 0=some L→F.E0 s=some L) (hv:VT (cx base F E' G' w') r.val v):SimE n base w0 F G' E' (st.app dst r) (a.put dst v) w':=by
 refine ⟨?_,?_,h.glob,h.below.trans hb,fun b hb hF=>(hkeep b hb hF).trans (h.keep b hb hF),h.old,Nat.le_trans h.bsz hb.size,hdead,hlive,hfar,hinj,hg0,hinit,fun t=>?_⟩
 ·unfold Act.put;cases dst <;> exact h.defers
 ·unfold Act.put;cases dst <;> simp [h.size]
 ·rw [put_eval]
  by_cases e:dst=some t
  ·have:=hd t e
   rw [if_pos ⟨e,by rw [h.size];exact this⟩]
   subst e
   simpa [St.app,upd] using hv
  ·rw [if_neg (fun hh=>e hh.1),app_T_ne e]
   exact (h.tmps t).mono hle
theorem SimE.put (h : SimE n base w0 F G E st a w) {dst : Option Nat} {r : Rec} {v : Value} (he : r.effs = []) (hd : ∀ d, dst = some d → d < n.n) (hv : VT (cx base F E G w) r.val v) :
    SimE n base w0 F (fun g=>G g∨g=r.gen) E (st.app dst r) (a.put dst v) w:=by
 have hle:(cx base F E G w).Le (cx base F E (fun g=>G g∨g=r.gen) w):=⟨fun _ _ _ _ h=>h,fun _ h=>.inl h,fun _ _ h=>⟨h,rfl⟩⟩
 have ho:∀ s g,(st.app dst r).obj s g=st.obj s g:=fun s g=>obj_congr (app_H_ne (by rw [he];simp))
 refine h.step hle (Below.refl _ _) hd (fun _ _ _=>rfl) (fun s g hh=>h.dead s g (by rwa [ho] at hh)) (fun s g o hh=>?_) h.far h.inj (.inl h.g0) h.init (hv.mono hle)
 rw [ho] at hh
 obtain ⟨hg,L,hL,hr⟩:=h.live s g o hh
 exact ⟨.inl hg,L,hL,hr.mono hle fun _ _=>rfl⟩
theorem SimE.make (h : SimE n base w0 F G E st a w) {w' : World} {dst : Option Nat} {r : Rec} {v : Value} {s : Nat} {o : Ob} {ks : List Nat} {L : Loc} (hG : ¬ G r.gen)
    (he:r.effs=(s,some (r.gen,o))::ks.map fun k=>(k,none)) (hd:∀ d,dst=some d→d < n.n) (hb:Below 0 w w')
    (hblk:∀ b,L.blk=some b→(w.heap.size≤b∧b < w'.heap.size)∨∃ s0 g0 L0,(s0=s∨s0∈ks)∧E s0 g0=some L0∧L0.blk=some b)
    (hheap:∀ b,b < w.heap.size→L.blk≠some b→w'.heap[b]? = w.heap[b]?)
    (hob:∀ E',(cx base F E G w).Le (cx base F E' (fun g=>G g∨g=r.gen) w')→E' s r.gen=some L→ObR (cx base F E' (fun g=>G g∨g=r.gen) w') L o)
    (hv:∀ E',(cx base F E G w).Le (cx base F E' (fun g=>G g∨g=r.gen) w')→E' s r.gen=some L→VT (cx base F E' (fun g=>G g∨g=r.gen) w') r.val v) :
    Sim n base w0 F (fun g=>G g∨g=r.gen) (st.app dst r) (a.put dst v) w':=by
 let E':Nat→Nat→Option Loc:=fun s' g'=>if s'=s then (if g'=r.gen then some L else none) else if s'∈ks then none else E s' g'
 have hE':E' s r.gen=some L:=by simp [E']
 have hold:∀ s' g' L',E' s' g'=some L'→(s'=s∧g'=r.gen∧L'=L)∨(s'≠s∧s' ∉ ks∧E s' g'=some L'):=by
  intro s' g' L' hh
  simp only [E'] at hh
  split at hh
  ·rename_i e
   split at hh
   ·rename_i e2
    exact .inl ⟨e,e2,(Option.some.inj hh).symm⟩
   ·cases hh
  ·rename_i e
   split at hh
   ·cases hh
   ·rename_i e2
    exact .inr ⟨e,e2,hh⟩
 have hle:(cx base F E G w).Le (cx base F E' (fun g=>G g∨g=r.gen) w'):=by
  refine ⟨fun s' g' L' hg hh=>?_,fun g hg=>.inl hg,fun nw b hB=>?_⟩
  ·rcases hold s' g' L' hh with ⟨_,e,_⟩ | ⟨_,_,hh⟩
   ·exact absurd (e ▸ hg) hG
   ·exact hh
  ·obtain ⟨hlt,hno,hor⟩:=hB
   have hne:L.blk≠some b:=by
    intro e
    rcases hblk b e with h' | ⟨s0,g0,L0,_,e0,e1⟩
    ·have:b < w.heap.size:=hlt
     omega
    ·exact hno ⟨s0,g0,L0,e0,e1⟩
   refine ⟨⟨Nat.lt_of_lt_of_le hlt hb.size,?_,hor⟩,hheap b hlt hne⟩
   rintro ⟨s',g',L',e1,e2⟩
   rcases hold s' g' L' e1 with ⟨_,_,rfl⟩ | ⟨_,_,e1⟩
   ·exact hne e2
   ·exact hno ⟨s',g',L',e1,e2⟩
 have hH:∀ s',(st.app dst r).H s'=if s'=s then some (r.gen,o) else if s'∈ks then none else st.H s':=by
  intro s'
  show effsH r.effs st.H s'=_
  rw [he]
  unfold effsH
  by_cases e:s'=s
  ·subst e;simp
  ·have:(s' == s)=false:=by simpa using e
   simp only [List.lookup,this,if_neg e]
   by_cases e2:s'∈ks
   ·rw [if_pos e2]
    have:(ks.map fun k=>(k,(none:Option (Nat × Ob)))).lookup s'=some none:=lookup_kill e2
    rw [this]
   ·rw [if_neg e2,lookup_none_of (by simpa using e2)]
 have hobj:∀ s' g',(st.app dst r).obj s' g'=if s'=s then (if r.gen=g' then some o else none) else if s'∈ks then none else st.obj s' g':=by
  intro s' g'
  unfold St.obj
  rw [hH]
  by_cases e:s'=s
  ·simp only [e,if_true]
  ·rw [if_neg e,if_neg e]
   by_cases e2:s'∈ks
   ·simp only [e2,if_true]
   ·simp only [e2,if_false]
 have hblkne:∀ s' g' L' b,E s' g'=some L'→s'≠s→s' ∉ ks→L'.blk=some b→L.blk≠some b:=by
  intro s' g' L' b hh hs hk hb' e
  rcases hblk b e with h' | ⟨s0,g0,L0,hor,e0,e1⟩
  ·have:=(h.far s' g' L' b hh hb').2;omega
  ·obtain ⟨rfl,_⟩:=h.inj _ _ _ _ _ _ b hh e0 hb' e1
   rcases hor with rfl | hor
   ·exact hs rfl
   ·exact hk hor
 refine ⟨E',h.step hle hb hd (fun b hb0 hD=>hheap b (Nat.lt_of_lt_of_le hb0 h.bsz) fun e=>?_) ?_ ?_ ?_ ?_ (.inl h.g0) (fun s' L' hh=>?_) (hv E' hle hE')⟩
 ·rcases hblk b e with ⟨h1,_⟩ | ⟨s0,g0,L0,_,e0,e1⟩
  ·have:=h.bsz;omega
  ·rcases (h.far s0 g0 L0 b e0 e1).1 with h2 | h2
   ·omega
   ·exact hD h2
 ·intro s' g' hh
  rw [hobj] at hh
  simp only [E']
  split
  ·rename_i e
   rw [if_pos e] at hh
   split
   ·rename_i e2
    rw [if_pos e2.symm] at hh
    cases hh
   ·rfl
  ·rename_i e
   rw [if_neg e] at hh
   split
   ·rfl
   ·rename_i e2
    rw [if_neg e2] at hh
    exact h.dead s' g' hh
 ·intro s' g' o' hh
  rw [hobj] at hh
  by_cases e:s'=s
  ·rw [if_pos e] at hh
   split at hh
   ·rename_i e2
    cases hh
    subst e;subst e2
    exact ⟨.inr rfl,L,hE',hob E' hle hE'⟩
   ·cases hh
  ·rw [if_neg e] at hh
   split at hh
   ·cases hh
   ·rename_i e2
    obtain ⟨hg,L',hL',hr⟩:=h.live s' g' o' hh
    refine ⟨.inl hg,L',by simp only [E'];rw [if_neg e,if_neg e2];exact hL',hr.mono hle fun b hb'=>?_⟩
    exact hheap b (h.far s' g' L' b hL' hb').2 (hblkne s' g' L' b hL' e e2 hb')
 ·intro s' g' L' b hh hb'
  rcases hold s' g' L' hh with ⟨_,_,rfl⟩ | ⟨_,_,hh⟩
  ·rcases hblk b hb' with ⟨h1,h2⟩ | ⟨s0,g0,L0,_,e0,e1⟩
   ·exact ⟨.inl (Nat.le_trans h.bsz h1),h2⟩
   ·have:=h.far s0 g0 L0 b e0 e1
    exact ⟨this.1,Nat.lt_of_lt_of_le this.2 hb.size⟩
  ·have:=h.far s' g' L' b hh hb'
   exact ⟨this.1,Nat.lt_of_lt_of_le this.2 hb.size⟩
 ·intro s1 g1 s2 g2 L1 L2 b i1 i2 b1 b2
  rcases hold s1 g1 L1 i1 with ⟨rfl,rfl,rfl⟩ | ⟨n1,k1,h1⟩
  ·rcases hold s2 g2 L2 i2 with ⟨rfl,rfl,_⟩ | ⟨n2,k2,h2⟩
   ·exact ⟨rfl,rfl⟩
   ·exact absurd b1 (hblkne s2 g2 L2 b h2 n2 k2 b2)
  ·rcases hold s2 g2 L2 i2 with ⟨rfl,rfl,rfl⟩ | ⟨n2,k2,h2⟩
   ·exact absurd b2 (hblkne s1 g1 L1 b h1 n1 k1 b1)
   ·exact h.inj _ _ _ _ _ _ b h1 h2 b1 b2
 ·rcases hold s' 0 L' hh with ⟨_,e,_⟩ | ⟨_,_,hh⟩
  ·exact absurd (e ▸ h.g0) hG
  ·exact h.init _ _ hh
theorem SimE.write (h : SimE n base w0 F G E st a w) {w' : World} {dst : Option Nat} {r : Rec} {v : Value} {s g : Nat} {o o' : Ob} {L : Loc} (ho : st.obj s g = some o) (hL : E s g = some L)
    (he:r.effs=[(s,some (g,o'))]) (hd:∀ d,dst=some d→d < n.n) (hb:Below 0 w w') (hheap:∀ b,L.blk≠some b→w'.heap[b]? = w.heap[b]?)
    (hob:(cx base F E G w).Le (cx base F E (fun g=>G g∨g=r.gen) w')→ObR (cx base F E (fun g=>G g∨g=r.gen) w') L o') (hv:(cx base F E G w).Le (cx base F E (fun g=>G g∨g=r.gen) w')→VT (cx base F E (fun g=>G g∨g=r.gen) w') r.val v) :
    SimE n base w0 F (fun g=>G g∨g=r.gen) E (st.app dst r) (a.put dst v) w':=by
 have hle:(cx base F E G w).Le (cx base F E (fun g=>G g∨g=r.gen) w'):=by
  refine ⟨fun _ _ _ _ h=>h,fun g hg=>.inl hg,fun nw b hB=>?_⟩
  obtain ⟨hlt,hno,hor⟩:=hB
  have hne:L.blk≠some b:=fun e=>hno ⟨s,g,L,hL,e⟩
  exact ⟨⟨Nat.lt_of_lt_of_le hlt hb.size,hno,hor⟩,hheap b hne⟩
 have hH:∀ s',(st.app dst r).H s'=if s'=s then some (g,o') else st.H s':=by
  intro s'
  show effsH r.effs st.H s'=_
  rw [he]
  unfold effsH
  by_cases e:s'=s
  ·subst e;simp
  ·have:(s' == s)=false:=by simpa using e
   simp [List.lookup,this,e]
 have hHs:∃ o0,st.H s=some (g,o0):=by
  unfold St.obj at ho
  split at ho
  ·rename_i g' o0 e
   split at ho
   ·rename_i e2;subst e2;exact ⟨o0,e⟩
   ·cases ho
  ·cases ho
 obtain ⟨o0,hHs⟩:=hHs
 have hobj:∀ s' g',(st.app dst r).obj s' g'=if s'=s∧g'=g then some o' else st.obj s' g':=by
  intro s' g'
  unfold St.obj
  rw [hH]
  by_cases e:s'=s
  ·subst e
   rw [if_pos rfl,hHs]
   by_cases e2:g'=g
   ·subst e2;simp
   ·have e3:¬ g=g':=fun e=>e2 e.symm
    simp [e2,e3]
  ·rw [if_neg e,if_neg (fun hh=>e hh.1)]
 refine h.step hle hb hd (fun b hb0 hD=>hheap b fun e=>?_) ?_ ?_ (fun s' g' L' b hh hb'=>?_) h.inj (.inl h.g0) h.init (hv hle)
 ·rcases (h.far s g L b hL e).1 with h2 | h2
  ·omega
  ·exact hD h2
 ·intro s' g' hh
  rw [hobj] at hh
  split at hh
  ·cases hh
  ·exact h.dead s' g' hh
 ·intro s' g' o1 hh
  rw [hobj] at hh
  split at hh
  ·rename_i e
   obtain ⟨rfl,rfl⟩:=e
   cases hh
   exact ⟨.inl (h.live _ _ _ ho).1,L,hL,hob hle⟩
  ·rename_i e
   obtain ⟨hg,L',hL',hr⟩:=h.live s' g' o1 hh
   refine ⟨.inl hg,L',hL',hr.mono hle fun b hb'=>hheap b fun e2=>e ?_⟩
   obtain ⟨e3,e4⟩:=h.inj _ _ _ _ _ _ b hL' hL hb' e2
   exact ⟨e3,e4⟩
 ·have:=h.far s' g' L' b hh hb'
  exact ⟨this.1,Nat.lt_of_lt_of_le this.2 hb.size⟩
end
end Go.Ar
namespace Go.Ar
open Go.RowKit
def RG (P:Program) (ops:Array Oper) (n:Nn) (c k:Nat) (rest:List Oper) (st:St) (fs:List Foot) (K:List Foot→St→Prop):Prop :=
 ops.toList.drop k=rest→Reg P ops n c k rest st fs K
inductive Ev (T:TL):Operand→AV→List Nat→Prop
 | tmp (t x):Look T t x→Ev T (.tmp t) x [t]
 | const (v):one v=true→Ev T (.const v) (.v v) []
 | func (f):Ev T (.func f) (.fn (.func f) [] []) []
 | global (g):Ev T (.global g) .any []
inductive Gd (ops:Array Oper) (T:TL):Option (Nat × Bool)→List Nat→Prop
 | none:Gd ops T none []
 | some (j b d):dstOf ops j=some d→Look T d (.v (.bool b))→Gd ops T (some (j,b)) [d]
theorem vt_v {C:Cx}{x:Value} (h:one x=true):VT C (.v x) x:=⟨h,.v x h⟩
theorem vt_v_eq {C:Cx}{x v:Value} (h:VT C (.v x) v):v=x:=by
 obtain ⟨_,h⟩:=h
 cases h;rfl
section
variable {P : Program} {ops : Array Oper} {n : Nn} {c k : Nat} {rest : List Oper} {T : TL} {H : HL} {fs : List Foot} {K : List Foot → St → Prop}
theorem rg_core {o : Oper} {r : Rec} {tl gts : List Nat} (hgd : Gd ops T o.guard gts) (hr : r.temps = (gts ++ tl).map fun t => (t, lookT T t))
    (hreads:∀ p∈r.reads,Hook H p.1 p.2.1 p.2.2) (hg:r.gen=c+k)
    (hdo:∀ base w0 F G E st a w Q (K':Act→World→Prop),¬ G r.gen→Pre st r→SimE n base w0 F G E st a w→(∀ a' w',Sim n base w0 F (fun g=>G g∨g=r.gen) (st.app o.dst r) a' w'→K' a' w')→o.wp P a w K' Q)
    (next:RG P ops n c (k+1) rest ((mk T H).app o.dst r) (r.foot::fs) K):RG P ops n c k (o::rest) (mk T H) fs K:=by
 intro hd
 obtain ⟨hdst,ho,hd',_⟩:=dstOf_of hd
 refine ⟨r,?_,hg,⟨?_,?_⟩,next hd'⟩
 ·intro base w0 F G st a w Q K' hG hp hs hK
  obtain ⟨E,hs⟩:=hs
  rw [hdst] at hK
  have hw:Region.wanted o (yielded ops a.tmps)=true:=by
   unfold Region.wanted
   generalize hgu:o.guard=gu at hgd
   cases hgd with
   | none=>rfl
   | some j b d hj hl =>
    simp only [yielded]
    have h1:=hp.temps (d,lookT T d) (by rw [hr];exact List.mem_map.2 ⟨d,by simp,rfl⟩)
    have h2:=hs.tmps d
    rw [h1,hl.eq] at h2
    have h3:=vt_v_eq h2
    have h4:a.tmps[d]? = some (.bool b):=by
     simp only [Act.eval,Array.getD_eq_getD_getElem?] at h3
     cases h5:a.tmps[d]? with
     | none=>rw [h5] at h3;simp [undef] at h3
     | some u=>rw [h5] at h3;simpa using h3
    have h6:(ops[j]?).bind (·.dst)=some d:=hj
    rw [h6]
    simp [h4]
  unfold wpOp
  simp only [ho,hw,if_true]
  exact .inl (hdo base w0 F G E st a w Q K' hG hp hs hK)
 ·intro p hp
  rw [hr] at hp
  obtain ⟨t,_,rfl⟩:=List.mem_map.1 hp
  rfl
 ·intro p hp
  exact (hreads p hp).obj
theorem opd_of {r:Rec}{x:Operand}{y:AV}{ts tl gts:List Nat} (hr:r.temps=(gts++tl).map fun t=>(t,lookT T t)) (h:Ev T x y ts) (hs:∀ t∈ts,t∈tl):Opd r x y:=by
 cases h with
 | tmp t _ hl =>
  show (t,y)∈r.temps
  rw [hr]
  exact List.mem_map.2 ⟨t,List.mem_append_right _ (hs t (by simp)),by rw [hl.eq]⟩
 | const v h=>exact fun C=>vt_v h
 | func f=>rfl
 | global g=>rfl
theorem cx_B (base:Nat) (F:Fr) (E:Nat→Nat→Option Loc) (G:Nat→Prop) (w:World):∀ nw b,(cx base F E G w).B nw b→(cx base F E G w).B false b :=
 fun nw b hb=>⟨hb.1,hb.2.1,by
  rcases hb.2.2 with h | h | ⟨_,h⟩
  ·exact .inl h
  ·exact .inr (.inl h)
  ·exact .inr (.inr ⟨rfl,h⟩)⟩
theorem rg_val {o : Oper} {tl gts : List Nat} {y : AV} {d : Nat} (ho : o.dst = some d) (hd : d < n.n) (hgd : Gd ops T o.guard gts)
    (hv:∀ (C:Cx) (a:Act) (w:World),C.w=w→(∀ x z ts,Ev T x z ts→(∀ t∈ts,t∈tl)→VT C z (a.eval x))→(∀ nw b,C.B nw b→C.B false b)→∃ v,(execOp a.eval o).run P w = .ok (.value v) w∧VT C y v)
    (next:RG P ops n c (k+1) rest (mk ((d,y)::T) H) (⟨gts++tl,[],[]⟩::fs) K):RG P ops n c k (o::rest) (mk T H) fs K:=by
 refine rg_core (r:=⟨(gts++tl).map fun t=>(t,lookT T t),[],y,c+k,[]⟩) hgd rfl (by simp) rfl ?_ ?_
 ·intro base w0 F G E st a w Q K' hG hp hs hK
  obtain ⟨v,hrun,hv⟩:=hv (cx base F E G w) a w rfl (fun x z ts hx hts=>hs.opd hp (opd_of rfl hx hts)) (cx_B base F E G w)
  unfold Oper.wp
  rw [hrun]
  exact hK _ _ ⟨E,hs.put rfl (by rw [ho];intro d' e;cases e;exact hd) hv⟩
 ·rw [ho,app_mk]
  have e:(⟨(gts++tl).map fun t=>(t,lookT T t),[],y,c+k,[]⟩:Rec).foot=⟨gts++tl,[],[]⟩:=by
   simp [Rec.foot,List.map_map,Function.comp_def]
  rw [e]
  exact next
theorem rg_move {d ty : Nat} {pos : String} {aft : Array Edge} {gd : Option (Nat × Bool)} {gts ts : List Nat} {x : Operand} {y : AV} (hgd : Gd ops T gd gts) (hx : Ev T x y ts) (hd : d < n.n)
    (next:RG P ops n c (k+1) rest (mk ((d,y)::T) H) (⟨gts++ts,[],[]⟩::fs) K):RG P ops n c k (⟨some d,.move x,ty,pos,aft,gd⟩::rest) (mk T H) fs K :=
 rg_val rfl hd hgd (fun _ a _ _ hop _=>⟨a.eval x,rfl,hop x y ts hx fun _ h=>h⟩) next
theorem rg_assign {d ty : Nat} {pos : String} {aft : Array Edge} {gd : Option (Nat × Bool)} {gts ts : List Nat} {x : Operand} {y : AV} (hgd : Gd ops T gd gts) (hx : Ev T x y ts) (hd : d < n.n)
    (next:RG P ops n c (k+1) rest (mk ((d,y)::T) H) (⟨gts++ts,[],[]⟩::fs) K):RG P ops n c k (⟨some d,.assign x,ty,pos,aft,gd⟩::rest) (mk T H) fs K :=
 rg_val rfl hd hgd (fun _ a _ _ hop _=>⟨a.eval x,rfl,hop x y ts hx fun _ h=>h⟩) next
theorem rg_pick {d ty : Nat} {pos : String} {aft : Array Edge} {gd : Option (Nat × Bool)} {gts ts ts1 ts2 : List Nat} {x x1 x2 : Operand} {b : Bool} {y1 y2 : AV} (hgd : Gd ops T gd gts) (hx : Ev T x (.v (.bool b)) ts) (h1 : Ev T x1 y1 ts1) (h2 : Ev T x2 y2 ts2) (hd : d < n.n)
    (next:RG P ops n c (k+1) rest (mk ((d,if b then y1 else y2)::T) H) (⟨gts++(ts++ts1++ts2),[],[]⟩::fs) K):RG P ops n c k (⟨some d,.pick x x1 x2,ty,pos,aft,gd⟩::rest) (mk T H) fs K :=
 rg_val rfl hd hgd (fun C a w _ hop _=>by
  have e:=vt_v_eq (hop x _ ts hx (by simp +contextual))
  refine ⟨if b then a.eval x1 else a.eval x2,?_,?_⟩
  ·simp only [execOp,e,asBool]
   rfl
  ·split
   ·exact hop x1 _ ts1 h1 (by simp +contextual)
   ·exact hop x2 _ ts2 h2 (by simp +contextual)) next
def binVal (op:BinOp) (k k':IntKind) (p q:Int):Option Value :=
 match op with
 | .add=>if k=k' then some (.int k (k.wrap (p+q))) else none
 | .sub=>if k=k' then some (.int k (k.wrap (p - q))) else none
 | .mul=>if k=k' then some (.int k (k.wrap (p * q))) else none
 | .eql=>if k=k' then some (.bool (p == q)) else none
 | .neq=>if k=k' then some (.bool (p != q)) else none
 | .lss=>if k=k' then some (.bool (decide (p < q))) else none
 | .leq=>if k=k' then some (.bool (decide (p≤q))) else none
 | .gtr=>if k=k' then some (.bool (decide (p > q))) else none
 | .geq=>if k=k' then some (.bool (decide (p≥q))) else none
 | _=>none
theorem bin_run {op:BinOp}{k k':IntKind}{p q:Int}{v:Value} (h:binVal op k k' p q=some v) (t:TypeId) (w:World):(binOp op t (.int k p) (.int k' q)).run P w = .ok v w∧one v=true:=by
 unfold binVal at h
 cases op <;> simp only [reduceCtorEq,Option.ite_none_right_eq_some,Option.some.injEq] at h
 all_goals
  obtain ⟨rfl,rfl⟩:=h
  simp [binOp,Op.intArith,Op.intCmp,pure,one,Value.oneCell']
theorem run_bind_ok {α β:Type}{s:Sem α}{f:α→Sem β}{w w':World}{v:α} (h:s.run P w = .ok v w'):(s >>= f).run P w=(f v).run P w':=by
 simp [Sem.run_bind,h]
theorem guard_int {op:BinOp}{t:TypeId}{x y:Operand}{k k':IntKind}{p q:Int} (w:World):(eqGuard op t x y (.int k p) (.int k' q)).run P w = .ok () w:=by
 unfold eqGuard
 cases op <;> rfl
theorem rg_bin {d ty : Nat} {pos : String} {aft : Array Edge} {gd : Option (Nat × Bool)} {gts ts1 ts2 : List Nat} {op : BinOp} {t t' : TypeId} {x1 x2 : Operand} {k1 k2 : IntKind} {p q : Int} {v : Value} (hgd : Gd ops T gd gts) (h1 : Ev T x1 (.v (.int k1 p)) ts1) (h2 : Ev T x2 (.v (.int k2 q)) ts2)
    (hv:binVal op k1 k2 p q=some v) (hd:d < n.n)
    (next:RG P ops n c (k+1) rest (mk ((d,.v v)::T) H) (⟨gts++(ts1++ts2),[],[]⟩::fs) K):RG P ops n c k (⟨some d,.binOp op t x1 x2 t',ty,pos,aft,gd⟩::rest) (mk T H) fs K :=
 rg_val rfl hd hgd (fun C a w _ hop _=>by
  have e1:=vt_v_eq (hop x1 _ ts1 h1 (by simp +contextual))
  have e2:=vt_v_eq (hop x2 _ ts2 h2 (by simp +contextual))
  obtain ⟨hr,ho⟩:=bin_run (P:=P) hv t w
  refine ⟨v,?_,vt_v ho⟩
  simp only [execOp,e1,e2]
  rw [run_bind_ok (v:=v) (w':=w)]
  ·rfl
  ·rw [run_bind_ok (guard_int w)];exact hr) next
end
end Go.Ar
namespace Go.Ar
open Go.RowKit
def tk (P:Program) (t:TypeId):Option (Bool × Nat) :=
 match P.info? t,P.underlying t with
 | some i,some d=>some ((match d with | .struct _ | .array _ _=>true | _=>false),i.size)
 | _,_=>none
section
variable {P : Program}
theorem tk_parts {t:TypeId}{b:Bool}{m:Nat} (h:tk P t=some (b,m)) (w:World):(isAgg t).run P w = .ok b w∧(sizeOf t).run P w = .ok m w:=by
 unfold tk at h
 split at h
 ·rename_i i d hi hd
  simp only [Option.some.injEq,Prod.mk.injEq] at h
  obtain ⟨rfl,rfl⟩:=h
  constructor
  ·unfold isAgg underlying
   simp only [Go.program,bind,Sem.bind,Sem.run,hd,pure]
   cases d <;> rfl
  ·unfold sizeOf typeInfo
   simp only [Go.program,bind,Sem.bind,Sem.run,hi,pure]
 ·cases h
theorem load_run {w:World}{a:Addr}{u:Value} (h:w.cell? a=some u):(Go.load a).run P w = .ok u w:=by
 simp [Go.load,Sem.run,h]
theorem loadCellsFrom_run {w : World} {a : Addr} : ∀ (n i : Nat) (acc : Array Value) (cs : List Value), cs.length = n → (∀ j u, cs[j]? = some u → w.cell? (a.add (i + j)) = some u) →
    (loadCellsFrom a i n acc).run P w = .ok (acc++cs.toArray) w:=by
 intro n
 induction n with
 | zero =>
  intro i acc cs hl _
  obtain rfl:=List.eq_nil_of_length_eq_zero hl
  simp [loadCellsFrom,pure]
 | succ n ih =>
  intro i acc cs hl hc
  cases cs with
  | nil=>cases hl
  | cons u cs =>
   simp only [loadCellsFrom]
   rw [run_bind_ok (load_run (u:=u) (by simpa using hc 0 u rfl))]
   rw [ih (i+1) (acc.push u) cs (by simpa using hl) (fun j v hv=>by
    have:=hc (j+1) v (by simpa using hv)
    rwa [show i+(j+1)=i+1+j from by omega] at this)]
   simp
theorem loadVar_one {t:TypeId}{m:Nat}{w:World}{a:Addr}{u:Value} (ht:tk P t=some (false,m)) (h:w.cell? a=some u):(loadVar t a).run P w = .ok u w:=by
 unfold loadVar
 rw [run_bind_ok (tk_parts ht w).1]
 exact load_run h
theorem loadVar_agg {t : TypeId} {m : Nat} {w : World} {a : Addr} {cs : List Value} (ht : tk P t = some (true, m)) (hl : cs.length = m) (h : ∀ j u, cs[j]? = some u → w.cell? (a.add j) = some u) :
    (loadVar t a).run P w = .ok (.agg cs.toArray) w:=by
 unfold loadVar
 rw [run_bind_ok (tk_parts ht w).1]
 simp only [if_true]
 rw [run_bind_ok (tk_parts ht w).2]
 have:=loadCellsFrom_run (P:=P) (w:=w) (a:=a) m 0 #[] cs hl (by simpa using h)
 rw [run_bind_ok (s:=loadCells a m) (v:=cs.toArray) (w':=w) (by simpa [loadCells] using this)]
 rfl
theorem block_cell {w:World}{b:Nat}{arr:Array Value}{t:TypeId} (h:w.heap[b]? = some (.cells arr t (0,0))) (o:Nat):w.cell? ⟨b,o,none⟩=arr[o]?:=by
 simp [World.cell?,h]
theorem add_mk (b o i:Nat):(⟨b,o,none⟩:Addr).add i=⟨b,o+i,none⟩:=by
 unfold Addr.add;split <;> simp_all
theorem setCell_heap (w : World) (b o : Nat) (v : Value) {arr : Array Value} {t : TypeId} (h : w.heap[b]? = some (.cells arr t (0, 0))) :
    (w.setCell ⟨b,o,none⟩ v).heap[b]? = some (.cells (arr.setIfInBounds o v) t (0,0)):=by
 simp [World.setCell,Array.getElem?_modify,h]
theorem store_run {w : World} {b o : Nat} {arr : Array Value} {t : TypeId} {v : Value} (h : w.heap[b]? = some (.cells arr t (0, 0))) (hv : one v = true) (ho : o < arr.size) :
    (Go.store ⟨b,o,none⟩ v).run P w = .ok () (w.setCell ⟨b,o,none⟩ v):=by
 have hc:w.cell? ⟨b,o,none⟩=some arr[o]:=by rw [block_cell h];simp [ho]
 have hf:w.frozen? ⟨b,o,none⟩=false:=by simp [World.frozen?,h]
 unfold Go.store
 cases v <;> simp_all [one,Value.oneCell',Sem.run]
theorem storeCells_run {b o : Nat} {t : TypeId} : ∀ (vs : List Value) (i : Nat) (w : World) (arr : Array Value), w.heap[b]? = some (.cells arr t (0, 0)) → (∀ v ∈ vs, one v = true) → o + i + vs.length ≤ arr.size →
    ∃ w' arr',(storeCells ⟨b,o,none⟩ vs i).run P w = .ok () w'∧w'.heap[b]? = some (.cells arr' t (0,0))∧arr'.size=arr.size ∧
     (∀ j,arr'[j]? = if o+i≤j∧j < o+i+vs.length then vs[j - (o+i)]? else arr[j]?)∧(∀ b',b'≠b→w'.heap[b']? = w.heap[b']?)∧Below b w w':=by
 intro vs
 induction vs with
 | nil =>
  intro i w arr h _ _
  refine ⟨w,arr,rfl,h,rfl,fun j=>?_,fun _ _=>rfl,Below.refl _ _⟩
  rw [if_neg (by simp)]
 | cons v vs ih =>
  intro i w arr h hv hl
  simp only [List.length_cons] at hl
  have ho:o+i < arr.size:=by omega
  simp only [storeCells,add_mk]
  rw [run_bind_ok (store_run h (hv v (by simp)) ho)]
  obtain ⟨w',arr',hr,hb,hs,hj,hn,hbl⟩:=ih (i+1) (w.setCell ⟨b,o+i,none⟩ v) (arr.setIfInBounds (o+i) v) (setCell_heap w b (o+i) v h) (fun x hx=>hv x (by simp [hx])) (by simp;omega)
  refine ⟨w',arr',hr,hb,by rw [hs];simp,fun j=>?_,fun b' hb'=>(hn b' hb').trans (Below.heap_setCell _ _ _ _ hb'),?_⟩
  ·rw [hj j]
   by_cases e:j=o+i
   ·subst e
    rw [if_neg (by omega),if_pos (by simp)]
    simp [ho]
   ·by_cases e2:o+(i+1)≤j∧j < o+(i+1)+vs.length
    ·rw [if_pos e2,if_pos (by simp;omega)]
     have e3:j - (o+i)=(j - (o+(i+1)))+1:=by omega
     rw [e3,List.getElem?_cons_succ]
    ·rw [if_neg e2,if_neg (by simp;omega)]
     rw [Array.getElem?_setIfInBounds]
     rw [if_neg (fun h=>e h.symm)]
  ·exact ((Below.refl b w).setCell (p:=⟨b,o+i,none⟩) (Nat.le_refl _) v).trans hbl
end
def cellAt:AV→Nat→Option AV
 | .agg ys,o=>ys[o]?
 | x,o=>if o=0 then some x else none
def partOf (x:AV) (ag:Bool) (m off:Nat):Option AV :=
 if ag then (match x with | .agg ys=>if off+m≤ys.length then some (.agg ((ys.drop off).take m)) else none | _=>none) else cellAt x off
theorem VR.flat_or {C:Cx}{x:AV}{cs:List Value} (h:VR C x cs):(∃ ys,x = .agg ys)∨(flat x=true∧∃ u,cs=[u]∧one u=true):=by
 cases h with
 | agg xs=>exact .inl ⟨xs,rfl⟩
 | v x h=>exact .inr ⟨rfl,_,rfl,h⟩
 | lst=>exact .inr ⟨rfl,_,rfl,rfl⟩
 | own=>exact .inr ⟨rfl,_,rfl,rfl⟩
 | ptr=>exact .inr ⟨rfl,_,rfl,rfl⟩
 | fptr=>exact .inr ⟨rfl,_,rfl,rfl⟩
 | mp=>exact .inr ⟨rfl,_,rfl,rfl⟩
 | fmp=>exact .inr ⟨rfl,_,rfl,rfl⟩
 | fn=>exact .inr ⟨rfl,_,rfl,rfl⟩
 | any _ h=>exact .inr ⟨rfl,_,rfl,h⟩
theorem vt_of {C:Cx}{x:AV}{u:Value} (hf:flat x=true) (h1:one u=true) (h:VR C x [u]):VT C x u:=by
 cases x <;> simp only [flat,Bool.false_eq_true] at hf
 case any=>trivial
 all_goals exact ⟨h1,h⟩
theorem VR.cell {C:Cx}{x y:AV}{cs:List Value}{o:Nat} (h:VR C x cs) (hp:cellAt x o=some y):∃ u,cs[o]? = some u∧one u=true∧flat y=true∧VR C y [u]:=by
 rcases h.flat_or with ⟨ys,rfl⟩ | ⟨hf,u,rfl,h1⟩
 ·cases h with
  | agg _ _ h1 h2 h3 h4 =>
   simp only [cellAt] at hp
   have hlt:=(List.getElem?_eq_some_iff.1 hp).1
   have hc:cs[o]? = some cs[o]:=List.getElem?_eq_getElem (by omega)
   exact ⟨_,hc,h2 _ (List.getElem_mem _),h3 _ (List.mem_of_getElem? hp),h4 o y hp _ hc⟩
 ·have:cellAt x o=if o=0 then some x else none:=by cases x <;> first | rfl | (simp [flat] at hf)
  rw [this] at hp
  split at hp
  ·rename_i e
   subst e
   cases hp
   exact ⟨u,rfl,h1,hf,h⟩
  ·cases hp
theorem VR.part {C:Cx}{x y:AV}{cs:List Value}{m off:Nat} (h:VR C x cs) (hp:partOf x true m off=some y):VR C y ((cs.drop off).take m)∧((cs.drop off).take m).length=m∧∃ ys,y = .agg ys:=by
 simp only [partOf,if_true] at hp
 cases x <;> simp only [reduceCtorEq] at hp
 rename_i ys
 split at hp
 ·rename_i hle
  cases hp
  cases h with
  | agg _ _ h1 h2 h3 h4 =>
   refine ⟨.agg _ _ (by simp [h1]) (fun c hc=>h2 c (List.mem_of_mem_drop (List.mem_of_mem_take hc))) (fun z hz=>h3 z (List.mem_of_mem_drop (List.mem_of_mem_take hz))) ?_,by simp;omega,_,rfl⟩
   intro i z hz c hc
   rw [List.getElem?_take] at hz hc
   split at hz
   ·rw [if_pos ‹_›] at hc
    rw [List.getElem?_drop] at hz hc
    exact h4 _ z hz c hc
   ·cases hz
 ·cases hp
end Go.Ar
namespace Go.Ar
open Go.RowKit
section
variable {P : Program} {ops : Array Oper} {n : Nn} {c k : Nat} {rest : List Oper} {T : TL} {H : HL} {fs : List Foot} {K : List Foot → St → Prop}
theorem foot_of {gts tl:List Nat}{rd:List (Nat × Nat × Ob)}{y:AV}{g:Nat}{es:List (Nat × Option (Nat × Ob))}:(⟨(gts++tl).map fun t=>(t,lookT T t),rd,y,g,es⟩:Rec).foot=⟨gts++tl,rd.map (·.1),es.map (·.1)⟩:=by
 simp [Rec.foot,List.map_map,Function.comp_def]
theorem rg_read {o : Oper} {tl gts : List Nat} {y : AV} {d s g : Nat} {ob : Ob} (ho : o.dst = some d) (hd : d < n.n) (hgd : Gd ops T o.guard gts) (hh : Hook H s g ob)
    (hv:∀ (C:Cx) (a:Act) (w:World) (L:Loc),C.w=w→C.E s g=some L→ObR C L ob→(∀ x z ts,Ev T x z ts→(∀ t∈ts,t∈tl)→VT C z (a.eval x)) →
     (∀ nw b,C.B nw b→C.B false b)→∃ v,(execOp a.eval o).run P w = .ok (.value v) w∧VT C y v)
    (next:RG P ops n c (k+1) rest (mk ((d,y)::T) H) (⟨gts++tl,[s],[]⟩::fs) K):RG P ops n c k (o::rest) (mk T H) fs K:=by
 refine rg_core (r:=⟨(gts++tl).map fun t=>(t,lookT T t),[(s,g,ob)],y,c+k,[]⟩) hgd rfl (by simpa using hh) rfl ?_ ?_
 ·intro base w0 F G E st a w Q K' hG hp hs hK
  obtain ⟨hg,L,hL,hr⟩:=hs.live s g ob (hp.reads (s,g,ob) (by simp))
  obtain ⟨v,hrun,hv⟩:=hv (cx base F E G w) a w L rfl hL hr (fun x z ts hx hts=>hs.opd hp (opd_of rfl hx hts)) (cx_B base F E G w)
  unfold Oper.wp
  rw [hrun]
  exact hK _ _ ⟨E,hs.put rfl (by rw [ho];intro d' e;cases e;exact hd) hv⟩
 ·rw [ho,app_mk,foot_of]
  exact next
theorem rg_load {d ty : Nat} {pos : String} {aft : Array Edge} {gd : Option (Nat × Bool)} {gts ts : List Nat} {t : TypeId} {x : Operand} {s g i off sz m : Nat} {ag : Bool} {xs : List AV} {e y : AV} (hgd : Gd ops T gd gts) (hx : Ev T x (.ptr s g i off) ts)
    (hh:Hook H s g (.buf sz xs)) (ht:tk P t=some (ag,m)) (he:xs[i]? = some e) (hy:partOf e ag m off=some y) (hd:d < n.n)
    (next:RG P ops n c (k+1) rest (mk ((d,y)::T) H) (⟨gts++ts,[s],[]⟩::fs) K):RG P ops n c k (⟨some d,.load t x,ty,pos,aft,gd⟩::rest) (mk T H) fs K :=
 rg_read rfl hd hgd hh (fun C a w L hw hL hr hop _=>by
  obtain ⟨h1,h2⟩:=hop x _ ts hx fun _ h=>h
  generalize e1:a.eval x=u at h2
  cases h2 with
  | ptr _ _ _ _ b p _ h2 =>
   obtain ⟨hb,rfl⟩:=h2 L hL
   obtain ⟨hsz,hr⟩:=hr
   rw [hb] at hr
   obtain ⟨arr,tt,hblk,hroom,hle,hel⟩:=hr
   obtain ⟨cs,hcl,hvr,hcs⟩:=hel i e he
   rw [hw] at hblk
   have hcell:∀ (j:Nat) u,cs[off+j]? = some u→w.cell? ((⟨b,i * L.sz+off,none⟩:Addr).add j)=some u:=by
    intro j u hu
    rw [add_mk,block_cell hblk,hsz,Nat.add_assoc]
    exact hcs _ u hu
   have hrun:∀ v,(loadVar t ⟨b,i * L.sz+off,none⟩).run P w = .ok v w→(execOp a.eval ⟨some d,.load t x,ty,pos,aft,gd⟩).run P w = .ok (.value v) w:=by
    intro v hv
    simp only [execOp,e1,Instr.loadAt,Instr.sureAddr]
    rw [run_bind_ok (v:=v) (w':=w)]
    ·rfl
    ·exact hv
   cases ag with
   | false =>
    simp only [partOf,Bool.false_eq_true,if_false] at hy
    obtain ⟨u',hu,ho,hf,hv⟩:=hvr.cell hy
    refine ⟨u',hrun u' (loadVar_one ht ?_),vt_of hf ho hv⟩
    have:=hcell 0 u' (by simpa using hu)
    simpa [Addr.add] using this
   | true =>
    obtain ⟨hv,hl,ys,rfl⟩:=hvr.part hy
    refine ⟨_,hrun _ (loadVar_agg ht hl fun j u' hu=>?_),⟨_,rfl,hv⟩⟩
    rw [List.getElem?_take] at hu
    split at hu
    ·rw [List.getElem?_drop] at hu
     exact hcell j u' hu
    ·cases hu) next
theorem rg_fload {d ty : Nat} {pos : String} {aft : Array Edge} {gd : Option (Nat × Bool)} {gts ts : List Nat} {t : TypeId} {x : Operand} {off m : Nat} {ag : Bool} {e y : AV} (hgd : Gd ops T gd gts) (hx : Ev T x (.fptr e off) ts)
    (ht:tk P t=some (ag,m)) (hy:partOf e ag m off=some y) (hd:d < n.n)
    (next:RG P ops n c (k+1) rest (mk ((d,y)::T) H) (⟨gts++ts,[],[]⟩::fs) K):RG P ops n c k (⟨some d,.load t x,ty,pos,aft,gd⟩::rest) (mk T H) fs K :=
 rg_val rfl hd hgd (fun C a w hw hop _=>by
  obtain ⟨h1,h2⟩:=hop x _ ts hx fun _ h=>h
  generalize hu:a.eval x=u at h2
  cases h2 with
  | fptr _ _ ad cs hvr hsp hB hcs =>
   have hcell:∀ (j:Nat) u,cs[off+j]? = some u→w.cell? ((ad.add off).add j)=some u:=by
    intro j u hu
    have h3:=hcs _ u hu
    rw [hw] at h3
    have:(ad.add off).add j=ad.add (off+j):=by
     obtain ⟨b,o,sp⟩:=ad
     simp only at hsp
     subst hsp
     simp [add_mk,Nat.add_assoc]
    rw [this]
    exact h3
   have hrun:∀ v,(loadVar t (ad.add off)).run P w = .ok v w→(execOp a.eval ⟨some d,.load t x,ty,pos,aft,gd⟩).run P w = .ok (.value v) w:=by
    intro v hv
    simp only [execOp,hu,Instr.loadAt,Instr.sureAddr]
    rw [run_bind_ok (v:=v) (w':=w)]
    ·rfl
    ·exact hv
   cases ag with
   | false =>
    simp only [partOf,Bool.false_eq_true,if_false] at hy
    obtain ⟨u',hu,ho,hf,hv⟩:=hvr.cell hy
    refine ⟨u',hrun u' (loadVar_one ht ?_),vt_of hf ho hv⟩
    have:=hcell 0 u' (by simpa using hu)
    simpa [Addr.add] using this
   | true =>
    obtain ⟨hv,hl,ys,rfl⟩:=hvr.part hy
    refine ⟨_,hrun _ (loadVar_agg ht hl fun j u' hu=>?_),⟨_,rfl,hv⟩⟩
    rw [List.getElem?_take] at hu
    split at hu
    ·rw [List.getElem?_drop] at hu
     exact hcell j u' hu
    ·cases hu) next
def fo (P:Program) (t:TypeId) (f:Nat):Option Nat :=
 match P.underlying t with
 | some (.struct fields)=>match fields[f]? with
  | some x=>match P.info? x.type with
   | some i=>if i.size=0 then none else some x.offset
   | none=>none
  | none=>none
 | _=>none
theorem fo_run {t:TypeId}{f o:Nat} (h:fo P t f=some o) (a:Addr) (w:World):(Instr.fieldAt t (.pointer (some a)) f).run P w = .ok (.pointer (some (a.add o))) w:=by
 unfold fo at h
 split at h
 ·rename_i fields hf
  split at h
  ·rename_i x hx
   split at h
   ·rename_i i hi
    split at h
    ·cases h
    ·rename_i hne
     cases h
     unfold Instr.fieldAt
     rw [run_bind_ok (v:=.struct fields) (w':=w) (by unfold underlying;simp [Go.program,bind,Sem.bind,Sem.run,hf,pure])]
     simp only [hx,Instr.sureAddr]
     rw [run_bind_ok (v:=a) (w':=w) rfl]
     rw [run_bind_ok (v:=a.add x.offset) (w':=w)]
     ·rfl
     ·unfold fieldPlace
      rw [run_bind_ok (v:=i.size) (w':=w) (by unfold sizeOf typeInfo;simp [Go.program,bind,Sem.bind,Sem.run,hi,pure])]
      rw [if_neg hne]
      rfl
   ·cases h
  ·cases h
 ·cases h
theorem rg_field {d ty : Nat} {pos : String} {aft : Array Edge} {gd : Option (Nat × Bool)} {gts ts : List Nat} {t : TypeId} {x : Operand} {s g i off f o : Nat} (hgd : Gd ops T gd gts) (hx : Ev T x (.ptr s g i off) ts)
    (hf:fo P t f=some o) (hd:d < n.n)
    (next:RG P ops n c (k+1) rest (mk ((d,.ptr s g i (off+o))::T) H) (⟨gts++ts,[],[]⟩::fs) K):RG P ops n c k (⟨some d,.fieldAddr t x f,ty,pos,aft,gd⟩::rest) (mk T H) fs K :=
 rg_val rfl hd hgd (fun C a w _ hop hB=>by
  obtain ⟨_,h2⟩:=hop x _ ts hx fun _ h=>h
  generalize e1:a.eval x=u at h2
  cases h2 with
  | ptr _ _ _ _ b p hg h2 =>
   refine ⟨.pointer (some ⟨b,p+o,none⟩),?_,rfl,.ptr _ _ _ _ _ _ hg fun L hL=>?_⟩
   ·simp only [execOp,e1]
    rw [run_bind_ok (fo_run hf ⟨b,p,none⟩ w),add_mk]
    rfl
   ·obtain ⟨h3,h4⟩:=h2 L hL
    exact ⟨h3,by omega⟩) next
theorem rg_ffield {d ty : Nat} {pos : String} {aft : Array Edge} {gd : Option (Nat × Bool)} {gts ts : List Nat} {t : TypeId} {x : Operand} {e : AV} {off f o : Nat} (hgd : Gd ops T gd gts) (hx : Ev T x (.fptr e off) ts)
    (hf:fo P t f=some o) (hd:d < n.n)
    (next:RG P ops n c (k+1) rest (mk ((d,.fptr e (off+o))::T) H) (⟨gts++ts,[],[]⟩::fs) K):RG P ops n c k (⟨some d,.fieldAddr t x f,ty,pos,aft,gd⟩::rest) (mk T H) fs K :=
 rg_val rfl hd hgd (fun C a w _ hop hB=>by
  obtain ⟨_,h2⟩:=hop x _ ts hx fun _ h=>h
  generalize e1:a.eval x=u at h2
  cases h2 with
  | fptr _ _ ad cs h1 h2 h3 h4 =>
   refine ⟨.pointer (some (ad.add (off+o))),?_,rfl,.fptr _ _ _ _ h1 h2 h3 h4⟩
   simp only [execOp,e1]
   rw [run_bind_ok (fo_run hf _ w)]
   have:(ad.add off).add o=ad.add (off+o):=by
    obtain ⟨b,q,sp⟩:=ad
    simp only at h2
    subst h2
    simp [add_mk,Nat.add_assoc]
   rw [this]
   rfl) next
theorem rg_nilCheck {d ty : Nat} {pos : String} {aft : Array Edge} {gd : Option (Nat × Bool)} {gts ts : List Nat} {x : Operand} {s g i off : Nat} (hgd : Gd ops T gd gts) (hx : Ev T x (.ptr s g i off) ts) (hd : d < n.n)
    (next:RG P ops n c (k+1) rest (mk ((d,.ptr s g i off)::T) H) (⟨gts++ts,[],[]⟩::fs) K):RG P ops n c k (⟨some d,.nilCheck x,ty,pos,aft,gd⟩::rest) (mk T H) fs K :=
 rg_val rfl hd hgd (fun C a w _ hop hB=>by
  obtain ⟨h1,h2⟩:=hop x _ ts hx fun _ h=>h
  generalize e1:a.eval x=u at h1 h2
  cases h2 with
  | ptr _ _ _ _ b p hg h2 =>
   refine ⟨.pointer (some ⟨b,p,none⟩),?_,rfl,.ptr _ _ _ _ _ _ hg h2⟩
   simp only [execOp,e1]
   rfl) next
def sl (P:Program) (t:TypeId):Option (TypeId × Nat) :=
 match P.underlying t with
 | some (.slice e)=>match P.info? e with
  | some i=>some (e,i.size)
  | none=>none
 | _=>none
theorem sl_parts {t e:TypeId}{m:Nat} (h:sl P t=some (e,m)) (w:World):P.underlying t=some (.slice e)∧(underlying t).run P w = .ok (.slice e) w∧(sizeOf e).run P w = .ok m w∧∃ i,P.info? e=some i∧i.size=m:=by
 unfold sl at h
 split at h
 ·rename_i e' he
  split at h
  ·rename_i i hi
   simp only [Option.some.injEq,Prod.mk.injEq] at h
   obtain ⟨rfl,rfl⟩:=h
   exact ⟨he,by unfold underlying;simp [Go.program,bind,Sem.bind,Sem.run,he,pure],by unfold sizeOf typeInfo;simp [Go.program,bind,Sem.bind,Sem.run,hi,pure],i,hi,rfl⟩
  ·cases h
 ·cases h
theorem index_run {t e : TypeId} {m : Nat} (h : sl P t = some (e, m)) {ad : Addr} {len cap i : Nat} {kd : IntKind} (hi : i < len) (w : World) :
    (Instr.indexAt t (.slice (some ad) len cap) (.int kd (i:Int))).run P w = .ok (.pointer (some (ad.add (i * m)))) w:=by
 obtain ⟨_,h1,h2,_⟩:=sl_parts h w
 unfold Instr.indexAt
 rw [run_bind_ok (v:=(kd,(i:Int))) (w':=w) rfl]
 simp only
 rw [run_bind_ok h1]
 simp only
 rw [run_bind_ok (v:=(some ad,len,e)) (w':=w) rfl]
 simp only
 rw [run_bind_ok h1]
 simp only [Int.natCast_nonneg,Int.ofNat_lt,hi,and_self,if_true,Int.toNat_natCast]
 rw [run_bind_ok h2]
 rfl
theorem rg_index {d ty : Nat} {pos : String} {aft : Array Edge} {gd : Option (Nat × Bool)} {gts ts1 ts2 : List Nat} {t e : TypeId} {x1 x2 : Operand} {s g sz off len i : Nat} {q : Int} {cl : Bool} {kd : IntKind} (hgd : Gd ops T gd gts)
    (h1:Ev T x1 (.own s g sz off len cl) ts1) (h2:Ev T x2 (.v (.int kd q)) ts2) (ht:sl P t=some (e,sz)) (hq:q=(i:Int)) (hi:i < len) (hd:d < n.n)
    (next:RG P ops n c (k+1) rest (mk ((d,.ptr s g (off+i) 0)::T) H) (⟨gts++(ts1++ts2),[],[]⟩::fs) K):RG P ops n c k (⟨some d,.indexAddr t x1 x2,ty,pos,aft,gd⟩::rest) (mk T H) fs K :=
 rg_val rfl hd hgd (fun C a w _ hop hB=>by
  obtain ⟨_,r1⟩:=hop x1 _ ts1 h1 (by simp +contextual)
  have e2:=vt_v_eq (hop x2 _ ts2 h2 (by simp +contextual))
  generalize e1:a.eval x1=u at r1
  cases r1 with
  | own _ _ _ _ _ _ A cc hg g1 g2 g3 =>
   obtain ⟨b,p,rfl,g4⟩:=g3 (by omega)
   refine ⟨.pointer (some ⟨b,p+i * sz,none⟩),?_,rfl,.ptr _ _ _ _ _ _ hg fun L hL=>?_⟩
   ·simp only [execOp,e1,e2,hq]
    rw [run_bind_ok (index_run ht hi w),add_mk]
    rfl
   ·obtain ⟨a1,a2,a3,a4⟩:=g4 L hL
    exact ⟨a1,by rw [a2,a3,Nat.add_mul];omega⟩) next
theorem rg_findex {d ty : Nat} {pos : String} {aft : Array Edge} {gd : Option (Nat × Bool)} {gts ts1 ts2 : List Nat} {t e : TypeId} {x1 x2 : Operand} {sz i : Nat} {q : Int} {nw : Bool} {xs : List AV} {el : AV} {kd : IntKind} (hgd : Gd ops T gd gts)
    (h1:Ev T x1 (.lst nw sz xs) ts1) (h2:Ev T x2 (.v (.int kd q)) ts2) (ht:sl P t=some (e,sz)) (hq:q=(i:Int)) (hi:xs[i]? = some el) (hd:d < n.n)
    (next:RG P ops n c (k+1) rest (mk ((d,.fptr el 0)::T) H) (⟨gts++(ts1++ts2),[],[]⟩::fs) K):RG P ops n c k (⟨some d,.indexAddr t x1 x2,ty,pos,aft,gd⟩::rest) (mk T H) fs K :=
 rg_val rfl hd hgd (fun C a w hw hop hB=>by
  obtain ⟨_,r1⟩:=hop x1 _ ts1 h1 (by simp +contextual)
  have e2:=vt_v_eq (hop x2 _ ts2 h2 (by simp +contextual))
  generalize e1:a.eval x1=u at r1
  cases r1 with
  | lst _ _ _ A cc cells g1 g2 g3 g4 =>
   have hlt:=(List.getElem?_eq_some_iff.1 hi).1
   obtain ⟨ad,rfl,hsp,hb,hc⟩:=g4 i hlt
   refine ⟨.pointer (some (ad.add (i * sz))),?_,rfl,?_⟩
   ·simp only [execOp,e1,e2,hq]
    rw [run_bind_ok (index_run ht hlt w)]
    rfl
   ·have:=VR.fptr (C:=C) el 0 (ad.add (i * sz)) (cells i) (g2 i el hi) (by obtain ⟨b,o,sp⟩:=ad;simp only at hsp;subst hsp;rw [add_mk]) (by rw [add_block];exact hB _ _ hb) (fun j u hu=>by
     have h3:=hc j u hu
     have:(ad.add (i * sz)).add j=ad.add (i * sz+j):=by
      obtain ⟨b,o,sp⟩:=ad
      simp only at hsp
      subst hsp
      simp [add_mk,Nat.add_assoc]
     rw [this]
     exact h3)
    have e3:(ad.add (i * sz)).add 0=ad.add (i * sz):=by simp [Addr.add]
    rwa [e3] at this) next
end
end Go.Ar
namespace Go.Ar
open Go.RowKit
def szOf:AV→Option Nat
 | .agg ys=>some ys.length
 | .any=>none
 | .tup _=>none
 | _=>some 1
theorem vt_cells {C:Cx}{x:AV}{v:Value}{m:Nat} (h:VT C x v) (hs:szOf x=some m):∃ cs:List Value,v.cells=cs.toArray∧cs.length=m∧VR C x cs∧∀ u∈cs,one u=true:=by
 cases x <;> simp only [szOf,Option.some.injEq,reduceCtorEq] at hs
 case agg ys =>
  obtain ⟨cs,rfl,hr⟩:=h
  refine ⟨cs,rfl,?_,hr,?_⟩
  ·cases hr with | agg _ _ h1=>omega
  ·cases hr with | agg _ _ _ h2=>exact h2
 all_goals
  obtain ⟨h1,h2⟩:=h
  exact ⟨[v],cells_one h1,hs,h2,by simpa using h1⟩
structure Elems (C:Cx) (sz:Nat) (zs:List AV) (news:List Value):Prop where
 len:news.length=zs.length * sz
 each:∀ (j:Nat) x,zs[j]? = some x→∃ cs:List Value,cs.length=sz∧VR C x cs∧∀ (i:Nat) u,cs[i]? = some u→news[j * sz+i]? = some u
 one:∀ u∈news,one u=true
theorem VR.ones {C:Cx}{x:AV}{cs:List Value} (h:VR C x cs):∀ u∈cs,one u=true:=by
 cases h with
 | agg _ _ _ h2=>exact h2
 | v x h=>simpa using h
 | any u h=>simpa using h
 | _=>simp [one,Value.oneCell']
theorem Elems.mono {C C':Cx} (h:C.Le C') {sz:Nat}{zs:List AV}{news:List Value} (he:Elems C sz zs news):Elems C' sz zs news :=
 ⟨he.len,fun j x hx=>by obtain ⟨cs,a,b,c⟩:=he.each j x hx;exact ⟨cs,a,b.mono h,c⟩,he.one⟩
theorem Elems.nil (C:Cx) (sz:Nat):Elems C sz [] []:=⟨by simp,by simp,by simp⟩
theorem Elems.append {C:Cx}{sz:Nat}{zs ys:List AV}{ns ms:List Value} (h:Elems C sz zs ns) (k:Elems C sz ys ms):Elems C sz (zs++ys) (ns++ms):=by
 refine ⟨by rw [List.length_append,List.length_append,h.len,k.len,Nat.add_mul],fun j x hx=>?_,fun u hu=>?_⟩
 ·rcases Nat.lt_or_ge j zs.length with hj | hj
  ·rw [List.getElem?_append_left hj] at hx
   obtain ⟨cs,a,b,c⟩:=h.each j x hx
   refine ⟨cs,a,b,fun i u hu=>?_⟩
   have:=c i u hu
   rw [List.getElem?_append_left (List.getElem?_eq_some_iff.1 this).1]
   exact this
  ·rw [List.getElem?_append_right hj] at hx
   obtain ⟨cs,a,b,c⟩:=k.each _ x hx
   refine ⟨cs,a,b,fun i u hu=>?_⟩
   have:=c i u hu
   have e:j * sz+i=ns.length+((j - zs.length) * sz+i):=by
    rw [h.len,Nat.sub_mul]
    have:=Nat.mul_le_mul_right sz hj
    omega
   rw [e,List.getElem?_append_right (by omega),Nat.add_sub_cancel_left]
   exact this
 ·rcases List.mem_append.1 hu with hu | hu
  ·exact h.one u hu
  ·exact k.one u hu
theorem Elems.sub {C:Cx}{sz:Nat}{zs:List AV}{ns:List Value} (h:Elems C sz zs ns) (o m:Nat) (ho:o+m≤zs.length):Elems C sz ((zs.drop o).take m) ((ns.drop (o * sz)).take (m * sz)):=by
 have hl:o * sz+m * sz≤ns.length:=by rw [h.len,← Nat.add_mul];exact Nat.mul_le_mul_right _ ho
 refine ⟨by simp only [List.length_take,List.length_drop];rw [Nat.min_eq_left (by omega),Nat.min_eq_left (by omega)],fun j x hx=>?_,fun u hu=>h.one u (List.mem_of_mem_drop (List.mem_of_mem_take hu))⟩
 rw [List.getElem?_take] at hx
 split at hx
 ·rename_i hj
  rw [List.getElem?_drop] at hx
  obtain ⟨cs,a,b,c⟩:=h.each _ x hx
  refine ⟨cs,a,b,fun i u hu=>?_⟩
  have hi:i < sz:=by have:=(List.getElem?_eq_some_iff.1 hu).1;omega
  have h1:j * sz+i < m * sz:=by
   have:=Nat.mul_le_mul_right sz (show j+1≤m from hj)
   rw [Nat.add_mul,Nat.one_mul] at this
   omega
  rw [List.getElem?_take,if_pos h1,List.getElem?_drop]
  have:=c i u hu
  rw [Nat.add_mul,Nat.add_assoc] at this
  exact this
 ·cases hx
theorem Elems.single {C:Cx}{x:AV}{cs:List Value} (h:VR C x cs):Elems C cs.length [x] cs:=by
 refine ⟨by simp,fun j y hy=>?_,h.ones⟩
 cases j with
 | zero=>simp at hy;subst hy;exact ⟨cs,rfl,h,by simp⟩
 | succ j=>simp at hy
theorem ob_elems {C : Cx} {L : Loc} {sz : Nat} {xs : List AV} {b : Nat} (h : ObR C L (.buf sz xs)) (hb : L.blk = some b) : L.sz = sz ∧ ∃ arr t, C.w.heap[b]? = some (.cells arr t (0, 0)) ∧ arr.size = L.room ∧ xs.length * sz ≤ arr.size ∧
    Elems C sz xs (arr.toList.take (xs.length * sz)):=by
 obtain ⟨h1,h2⟩:=h
 rw [hb] at h2
 obtain ⟨arr,t,a1,a2,a3,a4⟩:=h2
 have hl:(arr.toList.take (xs.length * sz)).length=xs.length * sz:=by rw [List.length_take];have h5:arr.toList.length=arr.size:=Array.length_toList;omega
 have hget:∀ (j:Nat) x,xs[j]? = some x→∀ i,i < sz→j * sz+i < xs.length * sz:=by
  intro j x hx i hi
  have hj:=(List.getElem?_eq_some_iff.1 hx).1
  have:=Nat.mul_le_mul_right sz (show j+1≤xs.length from hj)
  rw [Nat.add_mul,Nat.one_mul] at this
  omega
 refine ⟨h1,arr,t,a1,a2,a3,hl,fun j x hx=>?_,fun u hu=>?_⟩
 ·obtain ⟨cs,c1,c2,c3⟩:=a4 j x hx
  refine ⟨cs,c1,c2,fun i u hu=>?_⟩
  have hi:i < sz:=by have:=(List.getElem?_eq_some_iff.1 hu).1;omega
  rw [List.getElem?_take,if_pos (hget j x hx i hi)]
  simpa using c3 i u hu
 ·obtain ⟨p,hp⟩:=List.mem_iff_getElem?.1 hu
  have hp1:=(List.getElem?_eq_some_iff.1 hp).1
  rw [hl] at hp1
  have hsz:0 < sz:=by
   refine Nat.pos_of_ne_zero fun e=>?_
   subst e;simp at hp1
  have hj:p / sz < xs.length:=(Nat.div_lt_iff_lt_mul hsz).2 hp1
  obtain ⟨cs,c1,c2,c3⟩:=a4 (p / sz) xs[p / sz] (List.getElem?_eq_getElem hj)
  have hm:p % sz < cs.length:=by rw [c1];exact Nat.mod_lt _ hsz
  have:=c3 (p % sz) cs[p % sz] (List.getElem?_eq_getElem hm)
  have e:p / sz * sz+p % sz=p:=by rw [Nat.mul_comm];exact Nat.div_add_mod p sz
  rw [e] at this
  rw [List.getElem?_take,if_pos hp1] at hp
  have h3:arr.toList[p]? = some cs[p % sz]:=by simpa using this
  rw [h3] at hp
  cases hp
  exact c2.ones _ (List.getElem_mem _)
theorem ob_of {C : Cx} {L : Loc} {sz : Nat} {xs : List AV} {b : Nat} {arr : Array Value} {t : TypeId} {ns : List Value} (hb : L.blk = some b) (hsz : L.sz = sz) (h1 : C.w.heap[b]? = some (.cells arr t (0, 0))) (h2 : arr.size = L.room)
    (he:Elems C sz xs ns) (hn:∀ (i:Nat) u,ns[i]? = some u→arr[i]? = some u):ObR C L (.buf sz xs):=by
 refine ⟨hsz,?_⟩
 rw [hb]
 refine ⟨arr,t,h1,h2,?_,fun j x hx=>?_⟩
 ·rw [← he.len]
  refine Nat.le_of_not_lt fun h=>?_
  have:=hn arr.size ns[arr.size] (List.getElem?_eq_getElem h)
  simp at this
 ·obtain ⟨cs,c1,c2,c3⟩:=he.each j x hx
  exact ⟨cs,c1,c2,fun i u hu=>hn _ _ (c3 i u hu)⟩
section
variable {P : Program} {ops : Array Oper} {n : Nn} {c k : Nat} {rest : List Oper} {T : TL} {H : HL} {fs : List Foot} {K : List Foot → St → Prop}
theorem rg_new (pt : Bool) {o : Oper} {tl gts : List Nat} {d s sz len : Nat} {xs : List AV} {y : AV} {rd : List (Nat × Nat × Ob)} (ho : o.dst = some d) (hd : d < n.n) (hgd : Gd ops T o.guard gts) (hrd : ∀ p ∈ rd, Hook H p.1 p.2.1 p.2.2)
    (hy:y=if pt then .ptr s (c+k) 0 0 else .own s (c+k) sz 0 len false)
    (hv:∀ (C:Cx) (a:Act) (w:World),C.w=w→(∀ p∈rd,∃ L,C.E p.1 p.2.1=some L∧ObR C L p.2.2)→(∀ x z ts,Ev T x z ts→(∀ t∈ts,t∈tl)→VT C z (a.eval x)) →
     ∃ ns e cap,(execOp a.eval o).run P w = .ok (.value (if pt then .pointer (some ⟨w.heap.size,0,none⟩) else .slice (some ⟨w.heap.size,0,none⟩) len cap)) (w.alloc (.cells ns e)) ∧
      len≤cap∧cap * sz≤ns.size∧∃ ms,Elems C sz xs ms∧∀ (i:Nat) u,ms[i]? = some u→ns[i]? = some u)
    (next:RG P ops n c (k+1) rest (mk ((d,y)::T) ((s,some (c+k,.buf sz xs))::H)) (⟨gts++tl,rd.map (·.1),[s]⟩::fs) K):RG P ops n c k (o::rest) (mk T H) fs K:=by
 refine rg_core (r:=⟨(gts++tl).map fun t=>(t,lookT T t),rd,y,c+k,[(s,some (c+k,.buf sz xs))]⟩) hgd rfl hrd rfl ?_ ?_
 ·intro base w0 F G E st a w Q K' hG hp hs hK
  obtain ⟨ns,e,cap,hrun,hc1,hc2,ms,hel,hms⟩:=hv (cx base F E G w) a w rfl (fun p hp'=>(hs.live _ _ _ (hp.reads p hp')).2) (fun x z ts hx hts=>hs.opd hp (opd_of rfl hx hts))
  unfold Oper.wp
  rw [hrun]
  refine hK _ _ (hs.make (s:=s) (o:=.buf sz xs) (ks:=[]) (L:=⟨some w.heap.size,sz,ns.size⟩) hG rfl (by rw [ho];intro d' e;cases e;exact hd) ((Below.refl _ _).alloc (Nat.zero_le _) _) ?_ ?_ ?_ ?_)
  ·intro b hb
   cases hb
   exact .inl ⟨Nat.le_refl _,by simp⟩
  ·intro b hb _
   exact Below.heap_alloc _ _ _ hb
  ·intro E' hle hE'
   exact ob_of (b:=w.heap.size) (arr:=ns) (t:=e) rfl rfl (heap_alloc_new w _) rfl (hel.mono hle) hms
  ·intro E' hle hE'
   subst hy
   cases pt with
   | true =>
    simp only [if_true]
    refine ⟨rfl,.ptr _ _ _ _ _ _ (.inr rfl) fun L hL=>?_⟩
    have hL:E' s (c+k)=some L:=hL
    rw [hE'] at hL
    cases hL
    exact ⟨rfl,by simp⟩
   | false =>
    simp only [Bool.false_eq_true,if_false]
    refine ⟨rfl,.own _ _ _ _ _ _ _ _ (.inr rfl) hc1 (by simp) fun hc=>⟨_,_,rfl,fun L hL=>?_⟩⟩
    have hL:E' s (c+k)=some L:=hL
    rw [hE'] at hL
    cases hL
    exact ⟨rfl,rfl,by simp,by simpa using hc2⟩
 ·rw [ho,app_mk,foot_of]
  exact next
theorem rg_box {d ty s sz : Nat} {pos : String} {aft : Array Edge} {gd : Option (Nat × Bool)} {gts ts : List Nat} {t : TypeId} {x : Operand} {y : AV} (hgd : Gd ops T gd gts) (hx : Ev T x y ts) (hs : szOf y = some sz) (hd : d < n.n)
    (next:RG P ops n c (k+1) rest (mk ((d,.ptr s (c+k) 0 0)::T) ((s,some (c+k,.buf sz [y]))::H)) (⟨gts++ts,[],[s]⟩::fs) K):RG P ops n c k (⟨some d,.box t x,ty,pos,aft,gd⟩::rest) (mk T H) fs K :=
 rg_new true (rd:=[]) (len:=0) rfl hd hgd (by simp) rfl (fun C a w _ _ hop=>by
  obtain ⟨cs,h1,h2,h3,h4⟩:=vt_cells (hop x y ts hx fun _ h=>h) hs
  refine ⟨cs.toArray,t,0,?_,Nat.le_refl _,by simp,cs,?_,by simp⟩
  ·simp only [execOp,Instr.box,newVar,newRow,h1]
   rfl
  ·rw [← h2];exact .single h3) next
end
end Go.Ar
namespace Go.Ar
open Go.RowKit
def setPart (e:AV) (off:Nat) (y:AV):Option AV :=
 match e with
 | .agg ys=>match y with
  | .agg zs=>if off+zs.length≤ys.length then some (.agg (ys.take off++zs++ys.drop (off+zs.length))) else none
  | y=>if off < ys.length∧flat y=true then some (.agg (ys.set off y)) else none
 | _=>if off=0∧flat y=true then some y else none
theorem VR.set {C : Cx} {e e' y : AV} {cs vs : List Value} {off : Nat} (h : VR C e cs) (hy : VR C y vs) (hs : setPart e off y = some e') :
    off+vs.length≤cs.length∧VR C e' (cs.take off++vs++cs.drop (off+vs.length)):=by
 rcases h.flat_or with ⟨ys,rfl⟩ | ⟨hf,u,rfl,h1⟩
 ·rcases hy.flat_or with ⟨zs,rfl⟩ | ⟨hfy,v,rfl,h1v⟩
  ·simp only [setPart] at hs
   split at hs
   ·rename_i hle
    cases hs
    cases h with
    | agg _ _ a1 a2 a3 a4 =>
     cases hy with
     | agg _ _ b1 b2 b3 b4 =>
      have hle':off+vs.length≤cs.length:=by omega
      refine ⟨hle',.agg _ _ ?_ ?_ ?_ ?_⟩
      ·simp only [List.length_append,List.length_take,List.length_drop];omega
      ·intro c hc
       simp only [List.mem_append] at hc
       rcases hc with (hc | hc) | hc
       ·exact a2 c (List.mem_of_mem_take hc)
       ·exact b2 c hc
       ·exact a2 c (List.mem_of_mem_drop hc)
      ·intro c hc
       simp only [List.mem_append] at hc
       rcases hc with (hc | hc) | hc
       ·exact a3 c (List.mem_of_mem_take hc)
       ·exact b3 c hc
       ·exact a3 c (List.mem_of_mem_drop hc)
      ·intro i x hx c hc
       rcases Nat.lt_or_ge i off with hi | hi
       ·rw [List.append_assoc,List.getElem?_append_left (by rw [List.length_take];omega),List.getElem?_take,if_pos hi] at hx hc
        exact a4 i x hx c hc
       ·rw [List.append_assoc,List.getElem?_append_right (by rw [List.length_take];omega),List.length_take,Nat.min_eq_left (by omega)] at hx hc
        rcases Nat.lt_or_ge (i - off) zs.length with hi2 | hi2
        ·rw [List.getElem?_append_left hi2] at hx
         rw [List.getElem?_append_left (by omega)] at hc
         exact b4 _ x hx c hc
        ·rw [List.getElem?_append_right hi2,List.getElem?_drop] at hx
         rw [List.getElem?_append_right (by omega),List.getElem?_drop] at hc
         rw [← b1] at hc
         exact a4 _ x hx c hc
   ·cases hs
  ·have hs':off < ys.length∧e' = .agg (ys.set off y):=by
    cases y <;> simp only [flat,Bool.false_eq_true] at hfy <;> (simp only [setPart] at hs;split at hs <;> first | (rename_i hh;exact ⟨hh.1,(Option.some.inj hs).symm⟩) | cases hs)
   obtain ⟨hlt,rfl⟩:=hs'
   cases h with
   | agg _ _ a1 a2 a3 a4 =>
    have hset:cs.take off++[v]++cs.drop (off+1)=cs.set off v:=by
     rw [List.set_eq_take_append_cons_drop,if_pos (by omega)];simp
    refine ⟨by simp;omega,?_⟩
    simp only [List.length_singleton]
    rw [hset]
    refine .agg _ _ (by simpa using a1) ?_ ?_ ?_
    ·intro c hc
     rcases List.mem_or_eq_of_mem_set hc with hc | rfl
     ·exact a2 c hc
     ·exact h1v
    ·intro c hc
     rcases List.mem_or_eq_of_mem_set hc with hc | rfl
     ·exact a3 c hc
     ·exact hfy
    ·intro i x hx c hc
     by_cases e:off=i
     ·subst e
      rw [List.getElem?_set_self (by omega)] at hx hc
      cases hx;cases hc
      exact hy
     ·rw [List.getElem?_set_ne e] at hx hc
      exact a4 i x hx c hc
 ·have hs':off=0∧flat y=true∧e'=y:=by
   cases e <;> simp only [flat,Bool.false_eq_true] at hf <;> (simp only [setPart] at hs;split at hs <;> first | (rename_i hh;exact ⟨hh.1,hh.2,(Option.some.inj hs).symm⟩) | cases hs)
  obtain ⟨rfl,hfy,rfl⟩:=hs'
  rcases hy.flat_or with ⟨zs,rfl⟩ | ⟨_,v,rfl,h1v⟩
  ·simp [flat] at hfy
  ·exact ⟨by simp,by simpa using hy⟩
theorem getElem?_splice {α:Type} (cs vs:List α) (off i:Nat) (h:off+vs.length≤cs.length):(cs.take off++vs++cs.drop (off+vs.length))[i]? = if off≤i∧i < off+vs.length then vs[i - off]? else cs[i]?:=by
 rcases Nat.lt_or_ge i off with hi | hi
 ·rw [if_neg (by omega),List.append_assoc,List.getElem?_append_left (by rw [List.length_take];omega),List.getElem?_take,if_pos hi]
 ·rw [List.append_assoc,List.getElem?_append_right (by rw [List.length_take];omega),List.length_take,Nat.min_eq_left (by omega)]
  rcases Nat.lt_or_ge (i - off) vs.length with hi2 | hi2
  ·rw [if_pos (by omega),List.getElem?_append_left hi2]
  ·rw [if_neg (by omega),List.getElem?_append_right hi2,List.getElem?_drop]
   congr 1;omega
section
variable {P : Program} {ops : Array Oper} {n : Nn} {c k : Nat} {rest : List Oper} {T : TL} {H : HL} {fs : List Foot} {K : List Foot → St → Prop}
theorem rg_store {ty : Nat} {pos : String} {aft : Array Edge} {gd : Option (Nat × Bool)} {gts ts1 ts2 : List Nat} {t : TypeId} {x1 x2 : Operand} {s g i off sz m : Nat} {ag : Bool} {xs : List AV} {e e' y : AV} (hgd : Gd ops T gd gts) (h1 : Ev T x1 (.ptr s g i off) ts1) (h2 : Ev T x2 y ts2)
    (hh:Hook H s g (.buf sz xs)) (hm:szOf y=some m) (ht:tk P t=some (ag,m)) (he:xs[i]? = some e) (he':setPart e off y=some e')
    (next:RG P ops n c (k+1) rest (mk T ((s,some (g,.buf sz (xs.set i e')))::H)) (⟨gts++(ts1++ts2),[s],[s]⟩::fs) K):RG P ops n c k (⟨none,.store t x1 x2,ty,pos,aft,gd⟩::rest) (mk T H) fs K:=by
 refine rg_core (r:=⟨(gts++(ts1++ts2)).map fun t=>(t,lookT T t),[(s,g,.buf sz xs)],.any,c+k,[(s,some (g,.buf sz (xs.set i e')))]⟩) hgd rfl (by simpa using hh) rfl ?_ ?_
 ·intro base w0 F G E st a w Q K' hG hp hs hK
  have ho:=hp.reads (s,g,.buf sz xs) (by simp)
  obtain ⟨hg,L,hL,hr⟩:=hs.live s g _ ho
  have hop:∀ x z ts,Ev T x z ts→(∀ t∈ts,t∈ts1++ts2)→VT (cx base F E G w) z (a.eval x):=fun x z ts hx hts=>hs.opd hp (opd_of rfl hx hts)
  obtain ⟨_,r1⟩:=hop x1 _ ts1 h1 (by simp +contextual)
  obtain ⟨vs,v1,v2,v3,v4⟩:=vt_cells (hop x2 _ ts2 h2 (by simp +contextual)) hm
  generalize e1:a.eval x1=u at r1
  cases r1 with
  | ptr _ _ _ _ b p _ hbL =>
   obtain ⟨hb,rfl⟩:=hbL L hL
   clear hbL
   obtain ⟨hsz,arr,tt,hblk,hroom,hle,hel⟩:=ob_elems hr hb
   obtain ⟨cs,c1,c2,c3⟩:=hel.each i e he
   obtain ⟨hfit,hnew⟩:=c2.set v3 he'
   have hlt:=(List.getElem?_eq_some_iff.1 he).1
   have hrow:i * sz+sz≤xs.length * sz:=by
    have:=Nat.mul_le_mul_right sz (show i+1≤xs.length from hlt)
    rwa [Nat.add_mul,Nat.one_mul] at this
   obtain ⟨w',arr',hrun,hb',hs',hj,hn,hbl⟩:=storeCells_run (P:=P) (b:=b) (o:=i * L.sz+off) vs 0 w arr hblk v4 (by rw [hsz];omega)
   unfold Oper.wp
   have hrun':(execOp a.eval ⟨none,.store t x1 x2,ty,pos,aft,gd⟩).run P w = .ok .skip w':=by
    simp only [execOp,e1,Instr.storeAt,Instr.sureAddr]
    rw [run_bind_ok (v:=()) (w':=w')]
    ·rfl
    ·rw [run_bind_ok (v:=(⟨b,i * L.sz+off,none⟩:Addr)) (w':=w) rfl]
     unfold storeVar
     rw [run_bind_ok (tk_parts ht w).2,v1]
     rw [if_neg (by simp [v2])]
     simpa using hrun
   rw [hrun']
   have hfar:=hs.far s g L b hL hb
   refine hK _ _ ⟨E,hs.write (o':=.buf sz (xs.set i e')) ho hL rfl (by simp) (hbl.mono (Nat.zero_le _)) (fun b' hb''=>hn b' (fun e=>hb'' (by rw [hb,e]))) ?_ (fun _=>VT.any _ _)⟩
   intro hle'
   refine ob_of (b:=b) (arr:=arr') (t:=tt) (ns:=arr'.toList.take (xs.length * sz)) hb hsz hb' (by rw [hs',hroom]) ?_ ?_
   ·have hlen:(arr'.toList.take (xs.length * sz)).length=xs.length * sz:=by
     rw [List.length_take]
     have h5:arr'.toList.length=arr'.size:=Array.length_toList
     omega
    have hget:∀ p,p < xs.length * sz→(arr'.toList.take (xs.length * sz))[p]? = if i * sz+off≤p∧p < i * sz+off+vs.length then vs[p - (i * sz+off)]? else (arr.toList.take (xs.length * sz))[p]?:=by
     intro p hp
     rw [List.getElem?_take,if_pos hp,List.getElem?_take,if_pos hp]
     have:=hj p
     simp only [Nat.add_zero,hsz] at this
     simpa using this
    refine ⟨by rw [hlen,List.length_set],fun j x hx=>?_,fun u hu=>?_⟩
    ·by_cases ej:i=j
     ·subst ej
      rw [List.getElem?_set_self hlt] at hx
      cases hx
      refine ⟨_,?_,hnew.mono hle',fun q u hu=>?_⟩
      ·simp only [List.length_append,List.length_take,List.length_drop];omega
      ·have hq:q < sz:=by
        have:=(List.getElem?_eq_some_iff.1 hu).1
        simp only [List.length_append,List.length_take,List.length_drop] at this
        omega
       rw [getElem?_splice _ _ _ _ hfit] at hu
       rw [hget _ (by omega)]
       by_cases hin:off≤q∧q < off+vs.length
       ·rw [if_pos hin] at hu
        rw [if_pos (by omega)]
        rw [show i * sz+q - (i * sz+off)=q - off from by omega]
        exact hu
       ·rw [if_neg hin] at hu
        rw [if_neg (by omega)]
        exact c3 q u hu
     ·rw [List.getElem?_set_ne ej] at hx
      obtain ⟨cs2,d1,d2,d3⟩:=hel.each j x hx
      refine ⟨cs2,d1,d2.mono hle',fun q u hu=>?_⟩
      have hq:q < sz:=by have:=(List.getElem?_eq_some_iff.1 hu).1;omega
      have hjl:=(List.getElem?_eq_some_iff.1 hx).1
      have hrow2:j * sz+sz≤xs.length * sz:=by
       have:=Nat.mul_le_mul_right sz (show j+1≤xs.length from hjl)
       rwa [Nat.add_mul,Nat.one_mul] at this
      rw [hget _ (by omega),if_neg ?_]
      ·exact d3 q u hu
      ·intro hin
       rcases Nat.lt_or_gt_of_ne ej with h | h
       ·have:=Nat.mul_le_mul_right sz (show i+1≤j from h)
        rw [Nat.add_mul,Nat.one_mul] at this
        omega
       ·have:=Nat.mul_le_mul_right sz (show j+1≤i from h)
        rw [Nat.add_mul,Nat.one_mul] at this
        omega
    ·obtain ⟨q,hq⟩:=List.mem_iff_getElem?.1 hu
     have hq1:=(List.getElem?_eq_some_iff.1 hq).1
     rw [hget q (by omega)] at hq
     split at hq
     ·exact v4 u (List.mem_of_getElem? hq)
     ·exact hel.one u (List.mem_of_getElem? hq)
   ·intro q u hu
    rw [List.getElem?_take] at hu
    split at hu
    ·simpa using hu
    ·cases hu
 ·rw [app_mk0,foot_of]
  exact next
theorem call_run {b : Builtin} {at_ : Array TypeId} {xs : List Operand} {ty : Nat} {o : Oper} {a : Act} {w w' : World} {v : Value} (ho : o.op = .call ⟨.builtin b, xs.toArray, at_⟩) (hty : o.type = ty)
    (h:∀ consts,(builtin b at_ ty consts (xs.map a.eval).toArray).run P w = .ok (.value v) w'):(execOp a.eval o).run P w = .ok (.value v) w':=by
 simp only [execOp,ho,hty,resolve]
 have:=h ((xs.toArray.map fun | .const _=>true | _=>false))
 simp only [List.map_toArray] at this ⊢
 exact this
def slB (P:Program) (t:TypeId):Bool:=match P.underlying t with | some (.slice _)=>true | _=>false
theorem slB_run {t:TypeId} (h:slB P t=true) (w:World):∃ e,P.underlying t=some (.slice e)∧(underlying t).run P w = .ok (.slice e) w:=by
 unfold slB at h
 split at h
 ·rename_i e he
  exact ⟨e,he,by unfold underlying;simp [Go.program,bind,Sem.bind,Sem.run,he,pure]⟩
 ·cases h
theorem len_run {t ty:TypeId} (h:slB P t=true) {A:Option Addr}{m cc:Nat}{w:World} (consts:Array Bool):(builtin .len #[t] ty consts [Value.slice A m cc].toArray).run P w = .ok (.value (.int .i64 (m:Int))) w:=by
 obtain ⟨e,_,hr⟩:=slB_run h w
 simp only [builtin]
 rw [run_bind_ok (v:=.int .i64 (m:Int)) (w':=w)]
 ·rfl
 ·unfold Builtin.len_
  simp only [List.getElem?_toArray,List.getElem?_cons_zero]
  rw [run_bind_ok hr]
  rfl
theorem rg_len {d ty : Nat} {pos : String} {aft : Array Edge} {gd : Option (Nat × Bool)} {gts ts : List Nat} {t : TypeId} {x : Operand} {nw : Bool} {sz : Nat} {xs : List AV} (hgd : Gd ops T gd gts) (hx : Ev T x (.lst nw sz xs) ts) (ht : slB P t = true) (hd : d < n.n)
    (next:RG P ops n c (k+1) rest (mk ((d,.v (.int .i64 (xs.length:Int)))::T) H) (⟨gts++ts,[],[]⟩::fs) K):RG P ops n c k (⟨some d,.call ⟨.builtin .len,#[x],#[t]⟩,ty,pos,aft,gd⟩::rest) (mk T H) fs K :=
 rg_val rfl hd hgd (fun C a w _ hop _=>by
  obtain ⟨_,h2⟩:=hop x _ ts hx fun _ h=>h
  generalize e1:a.eval x=u at h2
  cases h2 with
  | lst=>exact ⟨_,call_run (xs:=[x]) rfl rfl (fun consts=>by simp only [List.map_cons,List.map_nil,e1];exact len_run ht consts),vt_v rfl⟩) next
theorem rg_olen {d ty : Nat} {pos : String} {aft : Array Edge} {gd : Option (Nat × Bool)} {gts ts : List Nat} {t : TypeId} {x : Operand} {s g sz off len : Nat} {cl : Bool} (hgd : Gd ops T gd gts) (hx : Ev T x (.own s g sz off len cl) ts) (ht : slB P t = true) (hd : d < n.n)
    (next:RG P ops n c (k+1) rest (mk ((d,.v (.int .i64 (len:Int)))::T) H) (⟨gts++ts,[],[]⟩::fs) K):RG P ops n c k (⟨some d,.call ⟨.builtin .len,#[x],#[t]⟩,ty,pos,aft,gd⟩::rest) (mk T H) fs K :=
 rg_val rfl hd hgd (fun C a w _ hop _=>by
  obtain ⟨_,h2⟩:=hop x _ ts hx fun _ h=>h
  generalize e1:a.eval x=u at h2
  cases h2 with
  | own=>exact ⟨_,call_run (xs:=[x]) rfl rfl (fun consts=>by simp only [List.map_cons,List.map_nil,e1];exact len_run ht consts),vt_v rfl⟩) next
end
end Go.Ar
namespace Go.Ar
open Go.RowKit
def splice {α:Type} (ns:List α) (o:Nat) (vs:List α):List α:=ns.take o++vs++ns.drop (o+vs.length)
theorem splice_length {α:Type}{ns vs:List α}{o:Nat} (h:o+vs.length≤ns.length):(splice ns o vs).length=ns.length:=by
 simp only [splice,List.length_append,List.length_take,List.length_drop];omega
theorem fold_set_get (vs : List Value) : ∀ (k o : Nat) (cells : Array Value) (j : Nat), o + k + vs.length ≤ cells.size →
    ((vs.zipIdx k).foldl (fun cs x=>cs.setIfInBounds (o+x.2) x.1) cells)[j]? = (if o+k≤j∧j < o+k+vs.length then vs[j - (o+k)]? else cells[j]?) ∧
    ((vs.zipIdx k).foldl (fun cs x=>cs.setIfInBounds (o+x.2) x.1) cells).size=cells.size:=by
 induction vs with
 | nil=>intro k o cells j _;simp;omega
 | cons v vs ih =>
  intro k o cells j h
  simp only [List.length_cons] at h
  simp only [List.zipIdx_cons,List.foldl_cons]
  obtain ⟨h1,h2⟩:=ih (k+1) o (cells.setIfInBounds (o+k) v) j (by simp;omega)
  refine ⟨?_,by rw [h2];simp⟩
  rw [h1]
  by_cases e:j=o+k
  ·subst e
   rw [if_neg (by omega),if_pos (by simp)]
   have:o+k < cells.size:=by omega
   simp [this]
  ·by_cases e2:o+(k+1)≤j∧j < o+(k+1)+vs.length
   ·rw [if_pos e2,if_pos (by simp;omega)]
    rw [show j - (o+k)=(j - (o+(k+1)))+1 from by omega,List.getElem?_cons_succ]
   ·rw [if_neg e2,if_neg (by simp;omega),Array.getElem?_setIfInBounds,if_neg (fun h=>e h.symm)]
theorem fill_step (vs : List Value) (o : Nat) (ns : List Value) (h : o + vs.length ≤ ns.length) :
    (vs.toArray.zipIdx.foldl (fun cs x=>cs.setIfInBounds (o+x.2) x.1) ns.toArray)=(splice ns o vs).toArray:=by
 apply Array.ext_getElem?
 intro j
 have:=(fold_set_get vs 0 o ns.toArray j (by simpa using h)).1
 rw [← Array.foldl_toList]
 simp only [Array.toList_zipIdx]
 rw [this]
 simp only [Nat.add_zero,List.getElem?_toArray]
 rw [splice,getElem?_splice ns vs o j h]
def cellsA:AV→List AV
 | .agg ys=>ys
 | y=>[y]
theorem VR.cellsA {C:Cx}{y:AV}{vs:List Value} (h:VR C y vs):VR C (.agg (cellsA y)) vs:=by
 rcases h.flat_or with ⟨ys,rfl⟩ | ⟨hf,u,rfl,h1⟩
 ·exact h
 ·have:Ar.cellsA y=[y]:=by cases y <;> first | rfl | (simp [flat] at hf)
  rw [this]
  refine .agg _ _ rfl (by simpa using h1) (by simpa using hf) ?_
  intro i x hx c hc
  cases i with
  | zero=>simp at hx hc;subst hx;subst hc;exact h
  | succ i=>simp at hx
theorem VR.splice {C:Cx}{zs ys:List AV}{cs vs:List Value}{o:Nat} (h:VR C (.agg zs) cs) (hy:VR C (.agg ys) vs) (hl:o+ys.length≤zs.length):VR C (.agg (splice zs o ys)) (splice cs o vs):=by
 have:=h.set hy (off:=o) (e':=.agg (Ar.splice zs o ys)) (by simp only [setPart];rw [if_pos hl];rfl)
 exact this.2
def fillA (place:Nat→Option (Nat × Nat)) (zs:List AV):List (Nat × AV)→Option (List AV)
 | []=>some zs
 | (i,y)::rest =>
  match place i with
  | none=>none
  | some (o,m)=>if szOf y=some m∧o+m≤zs.length then fillA place (splice zs o (cellsA y)) rest else none
theorem fillA_mono {p p':Nat→Option (Nat × Nat)} (h:∀ i x,p i=some x→p' i=some x):∀ (ps:List (Nat × AV)) (zs ys:List AV),fillA p zs ps=some ys→fillA p' zs ps=some ys:=by
 intro ps
 induction ps with
 | nil=>intro zs ys hf;exact hf
 | cons a ps ih =>
  intro zs ys hf
  obtain ⟨i,y⟩:=a
  simp only [fillA] at hf ⊢
  split at hf
  ·cases hf
  ·rename_i o m hp
   rw [h i _ hp]
   split at hf
   ·rename_i hc
    simp only [hc,and_self,if_true]
    exact ih _ _ hf
   ·cases hf
theorem fill_rel {C : Cx} {place : Nat → Option (Nat × Nat)} : ∀ (ps : List (Nat × AV)) (vs : List (Nat × Value)) (zs zs' : List AV) (cs : List Value), VR C (.agg zs) cs →
    ps.length=vs.length→(∀ (i:Nat) p v,ps[i]? = some p→vs[i]? = some v→p.1=v.1∧VT C p.2 v.2)→fillA place zs ps=some zs'→∃ cs':List Value,Instr.fill place cs.toArray vs=some cs'.toArray∧VR C (.agg zs') cs':=by
 intro ps
 induction ps with
 | nil =>
  intro vs zs zs' cs h hl _ hf
  obtain rfl:=List.eq_nil_of_length_eq_zero hl.symm
  cases hf
  exact ⟨cs,rfl,h⟩
 | cons p ps ih =>
  intro vs zs zs' cs h hl hv hf
  cases vs with
  | nil=>cases hl
  | cons v vs =>
   obtain ⟨i,y⟩:=p
   obtain ⟨i',u⟩:=v
   obtain ⟨e,hu⟩:=hv 0 _ _ rfl rfl
   simp only at e hu
   subst e
   simp only [fillA] at hf
   split at hf
   ·cases hf
   ·rename_i o m hp
    split at hf
    ·rename_i hc
     obtain ⟨us,h1,h2,h3,_⟩:=vt_cells hu hc.1
     have hys:VR C (.agg (cellsA y)) us:=h3.cellsA
     have hyl:(cellsA y).length=us.length:=by cases hys with | agg _ _ h1=>exact h1
     have hzl:zs.length=cs.length:=by cases h with | agg _ _ h1=>exact h1
     obtain ⟨cs',hc',hr⟩:=ih vs _ zs' _ (h.splice hys (by omega)) (by simpa using hl) (fun i p v hp hv'=>hv (i+1) p v (by simpa using hp) (by simpa using hv')) hf
     refine ⟨cs',?_,hr⟩
     simp only [Instr.fill,hp]
     rw [if_neg (by simp [h1,h2];omega),h1,fill_step us o cs (by omega)]
     exact hc'
    ·cases hf
def bd (P:Program) (t:TypeId):Option (List Value × List (Nat × Nat)) :=
 match P.info? t with
 | some i=>match i.zero with
  | some z=>match P.underlying t with
   | some (.struct fields)=>match fields.toList.mapM (fun f=>(P.info? f.type).map fun i=>(f.offset,i.size)) with
    | some ps=>if z.cells.toList.all one then some (z.cells.toList,ps) else none
    | none=>none
   | some (.array len e)=>match P.info? e with
    | some i=>if z.cells.toList.all one then some (z.cells.toList,(List.range len).map fun k=>(k * i.size,i.size)) else none
    | none=>none
   | _=>none
  | none=>none
 | none=>none
section
variable {P : Program} {ops : Array Oper} {n : Nn} {c k : Nat} {rest : List Oper} {T : TL} {H : HL} {fs : List Foot} {K : List Foot → St → Prop}
theorem zero_VR {C:Cx}{zs:List Value} (h:zs.all one=true):VR C (.agg (zs.map .v)) zs:=by
 have h:=List.all_eq_true.1 h
 refine .agg _ _ (by simp) h ?_ ?_
 ·intro x hx
  obtain ⟨v,_,rfl⟩:=List.mem_map.1 hx
  rfl
 ·intro i x hx c hc
  rw [List.getElem?_map,hc] at hx
  cases hx
  exact .v c (h c (List.mem_of_getElem? hc))
theorem mapM_run {α β:Type}{f:α→Option β}{g:α→Sem β}{w:World}:∀ (l:List α) (r:List β),l.mapM f=some r→(∀ a b,f a=some b→(g a).run P w = .ok b w)→(l.mapM g).run P w = .ok r w:=by
 intro l
 induction l with
 | nil=>intro r h _;cases h;rfl
 | cons a l ih =>
  intro r h hg
  simp only [List.mapM_cons,Option.bind_eq_bind,Option.bind_eq_some_iff,Option.pure_def,Option.some.injEq] at h
  obtain ⟨b,hb,bs,hbs,rfl⟩:=h
  rw [List.mapM_cons,run_bind_ok (hg a b hb),run_bind_ok (ih bs hbs hg)]
  rfl
theorem build_run {C : Cx} {t : TypeId} {zs : List Value} {pl : List (Nat × Nat)} (h : bd P t = some (zs, pl)) {ps : List (Nat × AV)} {vs : List (Nat × Value)} {ys : List AV} (hl : ps.length = vs.length)
    (hv:∀ (i:Nat) p v,ps[i]? = some p→vs[i]? = some v→p.1=v.1∧VT C p.2 v.2) (hf:fillA (pl[·]?) (zs.map .v) ps=some ys) (w:World) :
    ∃ cs:List Value,(Instr.build t vs.toArray).run P w = .ok (.agg cs.toArray) w∧VR C (.agg ys) cs:=by
 unfold bd at h
 split at h
 ·rename_i i hi
  split at h
  ·rename_i z hz
   have hzero:(zeroValue t).run P w = .ok z w:=by unfold zeroValue typeInfo;simp [Go.program,bind,Sem.bind,Sem.run,hi,hz,pure]
   split at h
   ·rename_i fields hu
    have hund:(underlying t).run P w = .ok (.struct fields) w:=by unfold underlying;simp [Go.program,bind,Sem.bind,Sem.run,hu,pure]
    split at h
    ·rename_i pls hpls
     split at h
     ·rename_i hall
      simp only [Option.some.injEq,Prod.mk.injEq] at h
      obtain ⟨rfl,rfl⟩:=h
      obtain ⟨cs',hc,hr⟩:=fill_rel ps vs _ ys z.cells.toList (zero_VR hall) hl hv hf
      refine ⟨cs',?_,hr⟩
      unfold Instr.build
      rw [run_bind_ok hzero,run_bind_ok hund]
      simp only
      have hm:(fields.mapM fun f=>do pure (f.offset,← sizeOf f.type):Sem (Array (Nat × Nat))).run P w = .ok pls.toArray w:=by
       rw [Array.mapM_eq_mapM_toList]
       have:=mapM_run (P:=P) (w:=w) (g:=fun f:Field=>do pure (f.offset,← sizeOf f.type)) fields.toList pls hpls (fun f b hb=>by
        simp only [Option.map_eq_some_iff] at hb
        obtain ⟨i,hi,rfl⟩:=hb
        rw [run_bind_ok (v:=i.size) (w':=w) (by unfold sizeOf typeInfo;simp [Go.program,bind,Sem.bind,Sem.run,hi,pure])]
        rfl)
       exact run_bind_ok this
      rw [run_bind_ok hm]
      simp only [List.getElem?_toArray] at hc ⊢
      rw [show z.cells=z.cells.toList.toArray from rfl,hc]
      rfl
     ·cases h
    ·cases h
   ·rename_i len e hu
    have hund:(underlying t).run P w = .ok (.array len e) w:=by unfold underlying;simp [Go.program,bind,Sem.bind,Sem.run,hu,pure]
    split at h
    ·rename_i ie hie
     split at h
     ·rename_i hall
      simp only [Option.some.injEq,Prod.mk.injEq] at h
      obtain ⟨rfl,rfl⟩:=h
      have hf':=fillA_mono (p':=fun i=>some (i * ie.size,ie.size)) (fun i x hx=>by
       simp only [List.getElem?_map,Option.map_eq_some_iff] at hx
       obtain ⟨q,hq,rfl⟩:=hx
       obtain ⟨_,hq⟩:=List.getElem?_eq_some_iff.1 hq
       simp at hq
       rw [hq]) ps _ _ hf
      obtain ⟨cs',hc,hr⟩:=fill_rel ps vs _ ys z.cells.toList (zero_VR hall) hl hv hf'
      refine ⟨cs',?_,hr⟩
      unfold Instr.build
      rw [run_bind_ok hzero,run_bind_ok hund]
      simp only
      rw [run_bind_ok (v:=ie.size) (w':=w) (by unfold sizeOf typeInfo;simp [Go.program,bind,Sem.bind,Sem.run,hie,pure])]
      rw [show z.cells=z.cells.toList.toArray from rfl,hc]
      rfl
     ·cases h
    ·cases h
   ·cases h
  ·cases h
 ·cases h
inductive Evs (T:TL):List (Nat × Operand)→List (Nat × AV)→List Nat→Prop
 | nil:Evs T [] [] []
 | cons (i x y ts xs ys tss):Ev T x y ts→Evs T xs ys tss→Evs T ((i,x)::xs) ((i,y)::ys) (ts++tss)
theorem evs_vt {C : Cx} {a : Act} {tl : List Nat} (hop : ∀ x z ts, Ev T x z ts → (∀ t ∈ ts, t ∈ tl) → VT C z (a.eval x)) {xs : List (Nat × Operand)} {ys : List (Nat × AV)} {ts : List Nat} (h : Evs T xs ys ts) (hs : ∀ t ∈ ts, t ∈ tl) :
    ys.length=(xs.map fun p=>(p.1,a.eval p.2)).length∧∀ (i:Nat) p v,ys[i]? = some p→(xs.map fun p=>(p.1,a.eval p.2))[i]? = some v→p.1=v.1∧VT C p.2 v.2:=by
 induction h with
 | nil=>exact ⟨rfl,by simp⟩
 | cons i x y ts xs ys tss hx _ ih =>
  obtain ⟨h1,h2⟩:=ih (fun t ht=>hs t (by simp [ht]))
  refine ⟨by simpa using h1,fun j p v hp hv=>?_⟩
  cases j with
  | zero =>
   simp only [List.getElem?_cons_zero,Option.some.injEq,List.map_cons] at hp hv
   subst hp;subst hv
   exact ⟨rfl,hop x y ts hx fun t ht=>hs t (by simp [ht])⟩
  | succ j=>exact h2 j p v (by simpa using hp) (by simpa using hv)
theorem rg_build {d ty : Nat} {pos : String} {aft : Array Edge} {gd : Option (Nat × Bool)} {gts ts : List Nat} {t : TypeId} {parts : List (Nat × Operand)} {ps : List (Nat × AV)} {zs : List Value} {pl : List (Nat × Nat)} {ys : List AV} (hgd : Gd ops T gd gts) (hx : Evs T parts ps ts)
    (ht:bd P t=some (zs,pl)) (hf:fillA (pl[·]?) (zs.map .v) ps=some ys) (hd:d < n.n)
    (next:RG P ops n c (k+1) rest (mk ((d,.agg ys)::T) H) (⟨gts++ts,[],[]⟩::fs) K):RG P ops n c k (⟨some d,.build t parts.toArray,ty,pos,aft,gd⟩::rest) (mk T H) fs K :=
 rg_val rfl hd hgd (fun C a w _ hop _=>by
  obtain ⟨h1,h2⟩:=evs_vt hop hx fun _ h=>h
  obtain ⟨cs,hrun,hr⟩:=build_run ht h1 h2 hf w
  refine ⟨.agg cs.toArray,?_,cs,rfl,hr⟩
  simp only [execOp,List.map_toArray]
  rw [run_bind_ok hrun]
  rfl) next
theorem Elems.set {C:Cx}{sz:Nat}{xs:List AV}{ns vs:List Value}{i:Nat}{y:AV} (h:Elems C sz xs ns) (hy:VR C y vs) (hl:vs.length=sz) (hi:i < xs.length):Elems C sz (xs.set i y) (splice ns (i * sz) vs):=by
 have hrow:i * sz+sz≤xs.length * sz:=by
  have:=Nat.mul_le_mul_right sz (show i+1≤xs.length from hi)
  rwa [Nat.add_mul,Nat.one_mul] at this
 have hfit:i * sz+vs.length≤ns.length:=by rw [h.len,hl];exact hrow
 refine ⟨by rw [splice_length hfit,h.len,List.length_set],fun j x hx=>?_,fun u hu=>?_⟩
 ·by_cases ej:i=j
  ·subst ej
   rw [List.getElem?_set_self hi] at hx
   cases hx
   refine ⟨vs,hl,hy,fun q u hu=>?_⟩
   have hq:=(List.getElem?_eq_some_iff.1 hu).1
   rw [splice,getElem?_splice ns vs (i * sz) _ hfit,if_pos (by omega),Nat.add_sub_cancel_left]
   exact hu
  ·rw [List.getElem?_set_ne ej] at hx
   obtain ⟨cs2,d1,d2,d3⟩:=h.each j x hx
   refine ⟨cs2,d1,d2,fun q u hu=>?_⟩
   have hq:q < sz:=by have:=(List.getElem?_eq_some_iff.1 hu).1;omega
   rw [splice,getElem?_splice ns vs (i * sz) _ hfit,if_neg ?_]
   ·exact d3 q u hu
   ·intro hin
    rcases Nat.lt_or_gt_of_ne ej with h | h
    ·have:=Nat.mul_le_mul_right sz (show i+1≤j from h)
     rw [Nat.add_mul,Nat.one_mul] at this
     omega
    ·have:=Nat.mul_le_mul_right sz (show j+1≤i from h)
     rw [Nat.add_mul,Nat.one_mul] at this
     omega
 ·simp only [splice,List.mem_append] at hu
  rcases hu with (hu | hu) | hu
  ·exact h.one u (List.mem_of_mem_take hu)
  ·exact hy.ones u hu
  ·exact h.one u (List.mem_of_mem_drop hu)
def setAll (xs:List AV) (ps:List (Nat × AV)):List AV:=ps.foldl (fun xs p=>xs.set p.1 p.2) xs
theorem setAll_length (ps:List (Nat × AV)):∀ xs:List AV,(setAll xs ps).length=xs.length:=by
 induction ps with
 | nil=>intro xs;rfl
 | cons p ps ih=>intro xs;simp only [setAll,List.foldl_cons] at ih ⊢;rw [ih];simp
def setOk (sz len:Nat) (ps:List (Nat × AV)):Bool:=ps.all fun p=>szOf p.2 == some sz && decide (p.1 < len)
theorem fill_elems {C : Cx} {sz len : Nat} : ∀ (ps : List (Nat × AV)) (vs : List (Nat × Value)) (xs : List AV) (ns : List Value), Elems C sz xs ns → xs.length = len → ps.length = vs.length →
    (∀ (i:Nat) p v,ps[i]? = some p→vs[i]? = some v→p.1=v.1∧VT C p.2 v.2)→setOk sz len ps=true→∃ ns':List Value,Instr.fill (fun i=>some (i * sz,sz)) ns.toArray vs=some ns'.toArray∧Elems C sz (setAll xs ps) ns':=by
 intro ps
 induction ps with
 | nil =>
  intro vs xs ns h _ hl _ _
  obtain rfl:=List.eq_nil_of_length_eq_zero hl.symm
  exact ⟨ns,rfl,h⟩
 | cons p ps ih =>
  intro vs xs ns h hxl hl hv hok
  cases vs with
  | nil=>cases hl
  | cons v vs =>
   obtain ⟨i,y⟩:=p
   obtain ⟨i',u⟩:=v
   obtain ⟨e,hu⟩:=hv 0 _ _ rfl rfl
   simp only at e hu
   subst e
   simp only [setOk,List.all_cons,Bool.and_eq_true,beq_iff_eq,decide_eq_true_eq] at hok
   obtain ⟨⟨hs,hi⟩,hok⟩:=hok
   obtain ⟨us,h1,h2,h3,_⟩:=vt_cells hu hs
   have hrow:i * sz+sz≤len * sz:=by
    have:=Nat.mul_le_mul_right sz (show i+1≤len from hi)
    rwa [Nat.add_mul,Nat.one_mul] at this
   have hnl:ns.length=len * sz:=by rw [h.len,hxl]
   obtain ⟨ns',hc',hr⟩:=ih vs (xs.set i y) _ (h.set h3 h2 (by omega)) (by simpa using hxl) (by simpa using hl) (fun i p v hp hv'=>hv (i+1) p v (by simpa using hp) (by simpa using hv')) (by simpa [setOk] using hok)
   refine ⟨ns',?_,hr⟩
   simp only [Instr.fill]
   rw [if_neg (by simp [h1,h2];omega),h1,fill_step us (i * sz) ns (by omega)]
   exact hc'
def se (P:Program) (t:TypeId):Option (TypeId × Nat × List Value × Nat) :=
 match P.underlying t with
 | some (.slice e)=>match P.info? e with
  | some i=>match i.zero with
   | some z=>if z.cells.size=i.size∧0 < i.size∧z.cells.toList.all one then some (e,i.size,z.cells.toList,i.bytes) else none
   | none=>none
  | none=>none
 | _=>none
theorem se_parts {t e:TypeId}{sz by_:Nat}{zs:List Value} (h:se P t=some (e,sz,zs,by_)):P.underlying t=some (.slice e)∧∃ i z,P.info? e=some i∧i.zero=some z∧i.size=sz∧i.bytes=by_∧z.cells=zs.toArray∧zs.length=sz∧0 < sz∧zs.all one=true:=by
 unfold se at h
 split at h
 ·rename_i e' he
  split at h
  ·rename_i i hi
   split at h
   ·rename_i z hz
    split at h
    ·rename_i hc
     simp only [Option.some.injEq,Prod.mk.injEq] at h
     obtain ⟨rfl,rfl,rfl,rfl⟩:=h
     exact ⟨he,i,z,hi,hz,rfl,rfl,rfl,by simpa using hc.1,hc.2.1,hc.2.2⟩
    ·cases h
   ·cases h
  ·cases h
 ·cases h
def zeroA (zs:List Value):AV:=match zs with | [v]=>.v v | _=>.agg (zs.map .v)
theorem zeroA_VR {C:Cx}{zs:List Value} (h:zs.all one=true):VR C (zeroA zs) zs:=by
 unfold zeroA
 split
 ·exact .v _ (by simpa using h)
 ·exact zero_VR h
theorem Elems.replicate {C:Cx}{x:AV}{zs:List Value} (h:VR C x zs) (m:Nat):Elems C zs.length (List.replicate m x) ((List.replicate m zs).flatten):=by
 induction m with
 | zero=>exact .nil _ _
 | succ m ih =>
  have:=(Elems.single h).append ih
  simpa [List.replicate_succ] using this
theorem mod_cells {zs:List Value} (hz:0 < zs.length) (m:Nat):((Array.range (m * zs.length)).map (zs.toArray[· % zs.length]!))=((List.replicate m zs).flatten).toArray:=by
 apply Array.ext_getElem?
 intro j
 simp only [Array.getElem?_map,List.getElem?_toArray]
 rcases Nat.lt_or_ge j (m * zs.length) with h | h
 ·have h1:(Array.range (m * zs.length))[j]? = some j:=by simp [h]
  rw [h1]
  simp only [Option.map_some]
  have hk:j % zs.length < zs.length:=Nat.mod_lt _ hz
  have:((List.replicate m zs).flatten)[j]? = zs[j % zs.length]?:=by
   clear h1
   induction m generalizing j with
   | zero=>simp at h
   | succ m ih =>
    rw [List.replicate_succ,List.flatten_cons]
    rcases Nat.lt_or_ge j zs.length with h2 | h2
    ·rw [List.getElem?_append_left h2,Nat.mod_eq_of_lt h2]
    ·rw [List.getElem?_append_right h2,ih (j - zs.length) (by rw [Nat.add_mul,Nat.one_mul] at h;omega) (Nat.mod_lt _ hz)]
     congr 1
     rw [Nat.mod_eq_sub_mod h2]
  rw [this,List.getElem?_eq_getElem hk]
  simp [hk]
 ·have h1:(Array.range (m * zs.length))[j]? = none:=by simp [h]
  have h2:((List.replicate m zs).flatten)[j]? = none:=by
   rw [List.getElem?_eq_none]
   simpa [List.length_flatten] using h
  rw [h1,h2]
  rfl
theorem rg_buildSlice {d ty s : Nat} {pos : String} {aft : Array Edge} {gd : Option (Nat × Bool)} {gts ts : List Nat} {t e : TypeId} {len sz by_ : Nat} {zs : List Value} {parts : List (Nat × Operand)} {ps : List (Nat × AV)} (hgd : Gd ops T gd gts) (hx : Evs T parts ps ts)
    (ht:se P t=some (e,sz,zs,by_)) (hok:setOk sz len ps=true) (hsm:len * sz≤16777216) (hd:d < n.n)
    (next:RG P ops n c (k+1) rest (mk ((d,.own s (c+k) sz 0 len false)::T) ((s,some (c+k,.buf sz (setAll (List.replicate len (zeroA zs)) ps)))::H)) (⟨gts++ts,[],[s]⟩::fs) K) :
    RG P ops n c k (⟨some d,.buildSlice t len parts.toArray,ty,pos,aft,gd⟩::rest) (mk T H) fs K :=
 rg_new false (rd:=[]) rfl hd hgd (by simp) rfl (fun C a w _ _ hop=>by
  obtain ⟨h1,h2⟩:=evs_vt hop hx fun _ h=>h
  obtain ⟨hu,i,z,hi,hz,hsz,_,hzc,hzl,hpos,hall⟩:=se_parts ht
  obtain ⟨ns',hf,hel⟩:=fill_elems (sz:=sz) ps _ (List.replicate len (zeroA zs)) _ (by rw [← hzl];exact Elems.replicate (zeroA_VR (C:=C) hall) len) (by simp) h1 h2 hok
  have hnl:ns'.length=len * sz:=by rw [hel.len];rw [setAll_length];simp
  refine ⟨ns'.toArray,e,len,?_,Nat.le_refl _,by simp [hnl],ns',hel,by simp⟩
  simp only [execOp,Bool.false_eq_true,if_false,List.map_toArray]
  unfold Instr.buildSlice
  have hund:(underlying t).run P w = .ok (.slice e) w:=by unfold underlying;simp [Go.program,bind,Sem.bind,Sem.run,hu,pure]
  have hsize:(sizeOf e).run P w = .ok sz w:=by unfold sizeOf typeInfo;simp [Go.program,bind,Sem.bind,Sem.run,hi,hsz,pure]
  have hzero:(zeroValue e).run P w = .ok z w:=by unfold zeroValue typeInfo;simp [Go.program,bind,Sem.bind,Sem.run,hi,hz,pure]
  have hinit:∀ zc:Array Value,(len * sz=0∨zc=zs.toArray)→(Array.range (len * sz)).map (zc[· % zc.size]!)=((List.replicate len zs).flatten).toArray:=by
   rintro zc (h0 | rfl)
   ·rw [h0]
    have h3:len=0:=by
     rcases Nat.mul_eq_zero.1 h0 with h | h
     ·exact h
     ·omega
    subst h3
    simp
   ·have:=mod_cells (zs:=zs) (by omega) len
    rw [hzl] at this
    simpa [hzl] using this
  have hrun:(Instr.buildSlice t len (parts.map fun p=>(p.1,a.eval p.2)).toArray).run P w = .ok (.slice (some ⟨w.heap.size,0,none⟩) len len) (w.alloc (.cells ns'.toArray e)):=by
   unfold Instr.buildSlice
   rw [run_bind_ok hund]
   simp only
   rw [run_bind_ok hsize,if_neg (by omega)]
   by_cases h0:len * sz=0
   ·simp only [h0,if_true]
    rw [run_bind_ok (v:=#[]) (w':=w) rfl]
    have:=hinit #[] (.inl h0)
    rw [h0] at this
    rw [this,hf]
    rfl
   ·simp only [h0,if_false]
    rw [run_bind_ok hzero,run_bind_ok (v:=zs.toArray) (w':=w) (by rw [hzc];rfl)]
    rw [hinit _ (.inr rfl),hf]
    rfl
  have:=run_bind_ok (f:=fun v=>(pure (Next.value v):Sem Next)) hrun
  exact this) next
end
end Go.Ar
namespace Go.Ar
open Go.RowKit
def SrcR (P:Program) (C:Cx) (sz:Nat) (t:TypeId) (v:Value) (zs:List AV):Prop:=∃ news:List Value,Src P sz t v zs.length news C.w∧Elems C sz zs news
section
variable {P : Program}
theorem src_lst {C:Cx}{nw:Bool}{sz:Nat}{zs:List AV}{v:Value}{t e:TypeId} (ht:P.underlying t=some (.slice e)) (h:VR C (.lst nw sz zs) [v]):SrcR P C sz t v zs:=by
 cases h with
 | lst _ _ _ A cc cells g1 g2 g3 g4 =>
  by_cases h0:zs=[]
  ·subst h0
   refine ⟨[],?_,.nil _ _⟩
   cases A with
   | none=>exact Src.ofNil C.w ht cc
   | some a=>exact Src.ofSlice C.w ht a 0 cc [] (by simp) (by simp) (by simp)
  ·have hlen:0 < zs.length:=List.length_pos_iff.2 h0
   obtain ⟨ad,rfl,hsp,_,_⟩:=g4 0 hlen
   have g4':∀ j,j < zs.length→∀ (i:Nat) u,(cells j)[i]? = some u→C.w.cell? (ad.add (j * sz+i))=some u:=by
    intro j hj
    obtain ⟨ad',e,_,_,hc⟩:=g4 j hj
    cases e
    exact hc
   have key:∀ m,m≤zs.length→∃ news:List Value,Elems C sz (zs.take m) news∧∀ (i:Nat) u,news[i]? = some u→C.w.cell? (ad.add i)=some u:=by
    intro m
    induction m with
    | zero=>intro _;exact ⟨[],by simpa using Elems.nil C sz,by simp⟩
    | succ m ih =>
     intro hm
     obtain ⟨news,h1,h2⟩:=ih (by omega)
     have hx:zs[m]? = some zs[m]:=List.getElem?_eq_getElem (by omega)
     have hcl:=g3 m (by omega)
     have hs:=Elems.single (g2 m _ hx)
     rw [hcl] at hs
     have h3:=h1.append hs
     rw [List.take_add_one,hx]
     refine ⟨news++cells m,by simpa using h3,fun i u hu=>?_⟩
     rcases Nat.lt_or_ge i news.length with hi | hi
     ·rw [List.getElem?_append_left hi] at hu;exact h2 i u hu
     ·rw [List.getElem?_append_right hi] at hu
      have hl:news.length=m * sz:=by rw [h1.len,List.length_take,Nat.min_eq_left (by omega)]
      have:=g4' m (by omega) _ u hu
      rwa [show m * sz+(i - news.length)=i from by omega] at this
   obtain ⟨news,h1,h2⟩:=key zs.length (Nat.le_refl _)
   rw [List.take_length] at h1
   exact ⟨news,Src.ofSlice C.w ht ad zs.length cc news h1.len h2 h1.one,h1⟩
theorem src_own {C : Cx} {s g sz off len : Nat} {cl : Bool} {ys : List AV} {v : Value} {t e : TypeId} {L : Loc} (ht : P.underlying t = some (.slice e)) (hL : C.E s g = some L) (ho : ObR C L (.buf sz ys)) (hle : off + len ≤ ys.length)
    (h:VR C (.own s g sz off len cl) [v]):SrcR P C sz t v ((ys.drop off).take len):=by
 have hlen:((ys.drop off).take len).length=len:=by simp;omega
 cases h with
 | own _ _ _ _ _ _ A cc _ g1 g2 g3 =>
  by_cases h0:len=0
  ·subst h0
   refine ⟨[],?_,by simpa using Elems.nil C sz⟩
   rw [hlen]
   cases A with
   | none=>exact Src.ofNil C.w ht cc
   | some a=>exact Src.ofSlice C.w ht a 0 cc [] (by simp) (by simp) (by simp)
  ·obtain ⟨b,p,rfl,g4⟩:=g3 (by omega)
   obtain ⟨hb,_,rfl,_⟩:=g4 L hL
   obtain ⟨_,arr,tt,hblk,hroom,hfit,hel⟩:=ob_elems ho hb
   have hs:=hel.sub off len hle
   refine ⟨_,?_,hs⟩
   rw [hlen]
   refine Src.ofSlice C.w ht _ len cc _ (by rw [hs.len,hlen]) (fun j u hu=>?_) hs.one
   rw [add_mk,block_cell hblk]
   rw [List.getElem?_take] at hu
   split at hu
   ·rw [List.getElem?_drop,List.getElem?_take] at hu
    split at hu
    ·simpa using hu
    ·cases hu
   ·cases hu
theorem setCells_facts (P : Program) {w : World} {b o : Nat} {arr : Array Value} {t : TypeId} {vs : List Value} (h : w.heap[b]? = some (.cells arr t (0, 0))) (hv : ∀ v ∈ vs, one v = true) (hl : o + vs.length ≤ arr.size) :
    ∃ arr':Array Value,(w.setCells b o vs).heap[b]? = some (.cells arr' t (0,0))∧arr'.size=arr.size∧(∀ j,arr'[j]? = if o≤j∧j < o+vs.length then vs[j - o]? else arr[j]?) ∧
     (∀ b',b'≠b→(w.setCells b o vs).heap[b']? = w.heap[b']?)∧Below b w (w.setCells b o vs):=by
 obtain ⟨w',arr',h1,h2,h3,h4,h5,h6⟩:=storeCells_run (P:=P) (b:=b) (o:=o) vs 0 w arr h hv (by omega)
 have h7:=run_storeCells_cells (P:=P) b o vs 0 w (fun j hj=>by rw [block_cell h];simp;omega) (fun j hj=>by simp [World.frozen?,h]) hv
 rw [h7] at h1
 have e:w.setCells b (o+0) vs=w':=by injection h1
 rw [Nat.add_zero] at e
 subst e
 exact ⟨arr',h2,h3,by simpa using h4,h5,h6⟩
end
section
variable {P : Program} {ops : Array Oper} {n : Nn} {c k : Nat} {rest : List Oper} {T : TL} {H : HL} {fs : List Foot} {K : List Foot → St → Prop}
theorem rg_append_core {d ty s' : Nat} {pos : String} {aft : Array Edge} {gd : Option (Nat × Bool)} {gts ts1 ts2 : List Nat} {t e : TypeId} {x1 x2 : Operand} {s g sz len by_ : Nat} {cl : Bool} {xs zs : List AV} {zv : List Value} {y2 : AV} {rd : List (Nat × Nat × Ob)} (hgd : Gd ops T gd gts)
    (h1:Ev T x1 (.own s g sz 0 len cl) ts1) (h2:Ev T x2 y2 ts2) (hh:Hook H s g (.buf sz xs)) (hl:xs.length=len) (ht:se P t=some (e,sz,zv,by_)) (hrd:∀ p∈rd,Hook H p.1 p.2.1 p.2.2)
    (hsrc:∀ (C:Cx) (v:Value),VT C y2 v→(∀ p∈rd,∃ L,C.E p.1 p.2.1=some L∧ObR C L p.2.2)→SrcR P C sz t v zs) (hby:(len+zs.length) * by_≤140737488355328) (hsm:len+zs.length≤140737488355328) (hd:d < n.n)
    (next:RG P ops n c (k+1) rest (mk ((d,.own s' (c+k) sz 0 (len+zs.length) false)::T) ((s',some (c+k,.buf sz (xs++zs)))::(s,none)::H)) (⟨gts++(ts1++ts2),s::rd.map (·.1),[s',s]⟩::fs) K) :
    RG P ops n c k (⟨some d,.call ⟨.builtin .append,#[x1,x2],#[t,t]⟩,ty,pos,aft,gd⟩::rest) (mk T H) fs K:=by
 refine rg_core (r:=⟨(gts++(ts1++ts2)).map fun t=>(t,lookT T t),(s,g,.buf sz xs)::rd,.own s' (c+k) sz 0 (len+zs.length) false,c+k,[(s',some (c+k,.buf sz (xs++zs))),(s,none)]⟩) hgd rfl ?_ rfl ?_ ?_
 ·intro p hp
  rcases List.mem_cons.1 hp with rfl | hp
  ·exact hh
  ·exact hrd p hp
 ·intro base w0 F G E st a w Q K' hG hp hs hK
  obtain ⟨_,L,hL,hr⟩:=hs.live s g _ (hp.reads (s,g,.buf sz xs) (by simp))
  have hop:∀ x z ts,Ev T x z ts→(∀ t∈ts,t∈ts1++ts2)→VT (cx base F E G w) z (a.eval x):=fun x z ts hx hts=>hs.opd hp (opd_of rfl hx hts)
  obtain ⟨_,r1⟩:=hop x1 _ ts1 h1 (by simp +contextual)
  obtain ⟨news,hsr,hel⟩:=hsrc (cx base F E G w) (a.eval x2) (hop x2 _ ts2 h2 (by simp +contextual)) (fun p hp'=>(hs.live _ _ _ (hp.reads p (by simp [hp']))).2)
  have hsr:Src P sz t (a.eval x2) zs.length news w:=hsr
  obtain ⟨hu,i,z,hi,hz,hsz,hbyt,hzc,hzl,hpos,hall⟩:=se_parts ht
  generalize e1:a.eval x1=u at r1
  have hexec:∀ v w',(Builtin.append_ #[t,t] ty #[u,a.eval x2]).run P w = .ok v w'→(execOp a.eval ⟨some d,.call ⟨.builtin .append,#[x1,x2],#[t,t]⟩,ty,pos,aft,gd⟩).run P w = .ok (.value v) w':=by
   intro v w' hrun
   refine call_run (xs:=[x1,x2]) rfl rfl fun consts=>?_
   simp only [List.map_cons,List.map_nil,e1,builtin]
   rw [run_bind_ok hrun]
   rfl
  cases r1 with
  | own _ _ _ _ _ _ A c0 hg g1 g2 g3 =>
   unfold Oper.wp
   by_cases hroom:len+zs.length≤c0
   ·by_cases hc0:c0=0
    ·
     have hl0:len=0:=by omega
     have hz0:zs=[]:=List.eq_nil_of_length_eq_zero (by omega)
     subst hl0;subst hz0;subst hc0
     have hx0:xs=[]:=List.eq_nil_of_length_eq_zero hl
     have hrun:(Builtin.append_ #[t,t] ty #[.slice A 0 0,a.eval x2]).run P w = .ok (.slice A 0 0) w:=by
      have hn0:news=[]:=List.eq_nil_of_length_eq_zero (by rw [hel.len];simp)
      have hc:=hsr.cells
      rw [hn0] at hc
      have hlen:=hsr.len w
      simp only [List.length_nil] at hc hlen
      cases A with
      | none=>simp [Builtin.append_,run_underlying hu,sizeOf,typeInfo,hi,hlen,hsz,hc]
      | some ad=>simp [Builtin.append_,run_underlying hu,sizeOf,typeInfo,hi,hlen,hsz,hc,storeCells]
     rw [hexec _ _ hrun]
     refine hK _ _ (hs.make (s:=s') (o:=.buf sz (xs++[])) (ks:=[s]) (L:=⟨none,sz,0⟩) hG rfl (by intro d' e;cases e;exact hd) (Below.refl _ _) ?_ ?_ ?_ ?_)
     ·intro b hb;cases hb
     ·intro b _ _;rfl
     ·intro E' _ _;exact ⟨rfl,by simpa using hx0⟩
     ·intro E' _ _;exact ⟨rfl,.own _ _ _ _ _ _ _ _ (.inr rfl) (by simp) (by simp) (by simp)⟩
    ·obtain ⟨b,p,rfl,g4⟩:=g3 (by omega)
     obtain ⟨hb,hLs,rfl,hfit⟩:=g4 L hL
     obtain ⟨_,arr,tt,hblk,hrm,hle,helo⟩:=ob_elems hr hb
     have hblk:w.heap[b]? = some (.cells arr tt (0,0)):=hblk
     have hnl:news.length=zs.length * sz:=hel.len
     have hmul:(len+zs.length) * sz≤c0 * sz:=Nat.mul_le_mul_right _ hroom
     rw [Nat.add_mul] at hmul
     simp only [Nat.zero_add] at hfit
     have hin:len * sz+news.length≤arr.size:=by omega
     obtain ⟨arr',k1,k2,k3,k4,k5⟩:=setCells_facts (P:=P) (o:=len * sz) hblk hel.one hin
     have hrun:=run_append_room_src (P:=P) w t t ty e i hu hi b (0 * sz) len c0 (a.eval x2) zs.length news (by rw [hsz];exact hsr) hroom
      (fun j hj=>by rw [block_cell hblk,hsz];simp;omega) (fun j hj=>by simp [World.frozen?,hblk])
     simp only [hsz,Nat.zero_mul,Nat.zero_add] at hrun e1 hexec ⊢
     rw [hexec _ _ hrun]
     have hfar:=hs.far s g L b hL hb
     refine hK _ _ (hs.make (s:=s') (o:=.buf sz (xs++zs)) (ks:=[s]) (L:=⟨some b,sz,arr.size⟩) hG rfl (by intro d' e;cases e;exact hd) (k5.mono (Nat.zero_le _)) ?_ ?_ ?_ ?_)
     ·intro b' hb';cases hb';exact .inr ⟨s,g,L,.inr (by simp),hL,hb⟩
     ·intro b' _ hne;exact k4 b' fun e=>hne (by rw [e])
     ·intro E' hle' _
      refine ob_of (b:=b) (arr:=arr') (t:=tt) (ns:=(arr.toList.take (xs.length * sz))++news) rfl rfl k1 k2 ((helo.append hel).mono hle') ?_
      intro q u hq
      have hlen:(arr.toList.take (xs.length * sz)).length=len * sz:=by rw [helo.len,hl]
      rcases Nat.lt_or_ge q (len * sz) with hq1 | hq1
      ·rw [List.getElem?_append_left (by omega),List.getElem?_take] at hq
       split at hq
       ·rw [k3 q,if_neg (by omega)];simpa using hq
       ·cases hq
      ·rw [List.getElem?_append_right (by omega),hlen] at hq
       have:=(List.getElem?_eq_some_iff.1 hq).1
       rw [k3 q,if_pos (by omega)]
       exact hq
     ·intro E' hle' hE'
      refine ⟨rfl,.own _ _ _ _ _ _ _ _ (.inr rfl) (by omega) (by simp) fun _=>⟨b,0,rfl,fun L' hL'=>?_⟩⟩
      have hL':E' s' (c+k)=some L':=hL'
      rw [hE'] at hL'
      cases hL'
      exact ⟨rfl,rfl,by simp,by simp;omega⟩
   ·
    have hgt:c0 < len+zs.length:=by omega
    have hold:∃ olds:List Value,Elems (cx base F E G w) sz xs olds∧(Builtin.firstCells i.size len (.slice A len c0)).run P w.drew = .ok olds.toArray w.drew:=by
     by_cases hl0:len=0
     ·subst hl0
      have hx0:xs=[]:=List.eq_nil_of_length_eq_zero hl
      subst hx0
      refine ⟨[],.nil _ _,?_⟩
      cases A with
      | none=>rfl
      | some ad=>simpa using run_firstCells_some (P:=P) w.drew i.size 0 ad 0 c0 [] (by simp) (by simp)
     ·obtain ⟨b,p,rfl,g4⟩:=g3 (by omega)
      obtain ⟨hb,hLs,rfl,hfit⟩:=g4 L hL
      obtain ⟨_,arr,tt,hblk,hrm,hle,helo⟩:=ob_elems hr hb
      have hblk:w.heap[b]? = some (.cells arr tt (0,0)):=hblk
      refine ⟨_,helo,run_firstCells_some (P:=P) w.drew i.size len _ len c0 _ (by rw [helo.len,hl,hsz]) fun j u hu=>?_⟩
      have hc:w.drew.cell? ((⟨b,0 * sz,none⟩:Addr).add j)=w.cell? ((⟨b,0 * sz,none⟩:Addr).add j):=rfl
      rw [hc,add_mk,block_cell hblk]
      rw [List.getElem?_take] at hu
      split at hu
      ·simpa using hu
      ·cases hu
    obtain ⟨olds,helo,hold⟩:=hold
    have hrun:=run_append_grow_src (P:=P) w t t ty e i z hu hi hz A len c0 olds hold (a.eval x2) zs.length news (by rw [hsz];exact hsr) hgt (by omega) (growslice_fits hgt (by rw [hbyt];exact hby))
    rw [hexec _ _ hrun]
    have hge:=grownCap_ge w (len+zs.length) c0 e
    have hzs:z.cells.size=sz:=by rw [hzc];simpa using hzl
    have hall:=helo.append hel
    have hal:(olds++news).length=(len+zs.length) * sz:=by rw [hall.len,List.length_append,hl]
    have hsize:((olds++news).toArray++Builtin.zeroCells z.cells (grownCap w (len+zs.length) c0 e - (len+zs.length))).size=grownCap w (len+zs.length) c0 e * sz:=by
     rw [Array.size_append,size_zeroCells,hzs,List.size_toArray,hal,← Nat.add_mul]
     congr 1;omega
    refine hK _ _ (hs.make (s:=s') (o:=.buf sz (xs++zs)) (ks:=[s]) (L:=⟨some w.heap.size,sz,grownCap w (len+zs.length) c0 e * sz⟩) hG rfl (by intro d' e;cases e;exact hd) ((Below.refl _ _).drew.alloc (Nat.zero_le _) _) ?_ ?_ ?_ ?_)
    ·intro b' hb';cases hb';exact .inl ⟨Nat.le_refl _,by simp⟩
    ·intro b' hb' _;exact Below.heap_alloc w.drew _ b' (by simpa using hb')
    ·intro E' hle' _
     refine ob_of (b:=w.heap.size) (t:=e) (ns:=olds++news) rfl rfl (heap_alloc_new w.drew _) hsize (hall.mono hle') ?_
     intro q u hq
     have:=(List.getElem?_eq_some_iff.1 hq).1
     rw [Array.getElem?_append_left (by simpa using this)]
     simpa using hq
    ·intro E' hle' hE'
     refine ⟨rfl,.own _ _ _ _ _ _ _ _ (.inr rfl) hge (by simp) fun _=>⟨_,_,rfl,fun L' hL'=>?_⟩⟩
     have hL':E' s' (c+k)=some L':=hL'
     rw [hE'] at hL'
     cases hL'
     exact ⟨rfl,rfl,by simp,by simp⟩
 ·rw [app_mk,foot_of]
  exact next
theorem rg_append {d ty s' : Nat} {pos : String} {aft : Array Edge} {gd : Option (Nat × Bool)} {gts ts1 ts2 : List Nat} {t e : TypeId} {x1 x2 : Operand} {s g sz len by_ s2 g2 off m : Nat} {cl cl2 : Bool} {xs ys : List AV} {zv : List Value} (hgd : Gd ops T gd gts)
    (h1:Ev T x1 (.own s g sz 0 len cl) ts1) (h2:Ev T x2 (.own s2 g2 sz off m cl2) ts2) (hh:Hook H s g (.buf sz xs)) (hh2:Hook H s2 g2 (.buf sz ys)) (hl:xs.length=len) (hle:off+m≤ys.length) (ht:se P t=some (e,sz,zv,by_))
    (hby:(len+m) * by_≤140737488355328) (hsm:len+m≤140737488355328) (hd:d < n.n)
    (next:RG P ops n c (k+1) rest (mk ((d,.own s' (c+k) sz 0 (len+m) false)::T) ((s',some (c+k,.buf sz (xs++(ys.drop off).take m)))::(s,none)::H)) (⟨gts++(ts1++ts2),[s,s2],[s',s]⟩::fs) K) :
    RG P ops n c k (⟨some d,.call ⟨.builtin .append,#[x1,x2],#[t,t]⟩,ty,pos,aft,gd⟩::rest) (mk T H) fs K:=by
 have hm:((ys.drop off).take m).length=m:=by simp;omega
 refine rg_append_core (rd:=[(s2,g2,.buf sz ys)]) (zs:=(ys.drop off).take m) hgd h1 h2 hh hl ht (by simpa using hh2) ?_ (by rw [hm];exact hby) (by rw [hm];exact hsm) hd (by rw [hm];exact next)
 intro C v hv hrd
 obtain ⟨L,hL,hr⟩:=hrd (s2,g2,.buf sz ys) (by simp)
 exact src_own (se_parts ht).1 hL hr hle hv.2
theorem rg_append_lst {d ty s' : Nat} {pos : String} {aft : Array Edge} {gd : Option (Nat × Bool)} {gts ts1 ts2 : List Nat} {t e : TypeId} {x1 x2 : Operand} {s g sz len by_ : Nat} {cl nw : Bool} {xs ys : List AV} {zv : List Value} (hgd : Gd ops T gd gts)
    (h1:Ev T x1 (.own s g sz 0 len cl) ts1) (h2:Ev T x2 (.lst nw sz ys) ts2) (hh:Hook H s g (.buf sz xs)) (hl:xs.length=len) (ht:se P t=some (e,sz,zv,by_))
    (hby:(len+ys.length) * by_≤140737488355328) (hsm:len+ys.length≤140737488355328) (hd:d < n.n)
    (next:RG P ops n c (k+1) rest (mk ((d,.own s' (c+k) sz 0 (len+ys.length) false)::T) ((s',some (c+k,.buf sz (xs++ys)))::(s,none)::H)) (⟨gts++(ts1++ts2),[s],[s',s]⟩::fs) K) :
    RG P ops n c k (⟨some d,.call ⟨.builtin .append,#[x1,x2],#[t,t]⟩,ty,pos,aft,gd⟩::rest) (mk T H) fs K :=
 rg_append_core (rd:=[]) (zs:=ys) hgd h1 h2 hh hl ht (by simp) (fun C v hv _=>src_lst (se_parts ht).1 hv.2) hby hsm hd next
end
end Go.Ar
namespace Go.Ar
open Go.RowKit
theorem Reg.mono {P:Program}{ops:Array Oper}{n:Nn}{c:Nat}{K K':List Foot→St→Prop} (hK:∀ fs st,K fs st→K' fs st):∀ {rest:List Oper}{k:Nat}{st:St}{fs:List Foot},Reg P ops n c k rest st fs K→Reg P ops n c k rest st fs K':=by
 intro rest
 induction rest with
 | nil=>intro k st fs h;exact hK _ _ h
 | cons o rest ih=>intro k st fs ⟨r,h1,h2,h3,h4⟩;exact ⟨r,h1,h2,h3,ih h4⟩
theorem least {p:Nat→Prop} (h:∃ n,p n):∃ n,p n∧∀ m,p m→n≤m:=by
 obtain ⟨n,hn⟩:=h
 induction n using Nat.strongRecOn with
 | _ n ih =>
  by_cases hh:∃ m,m < n∧p m
  ·obtain ⟨m,h1,h2⟩:=hh
   exact ih m h1 h2
  ·exact ⟨n,hn,fun m hm=>Nat.le_of_not_lt fun hlt=>hh ⟨m,hlt,hm⟩⟩
structure Run where
 n:Nn
 base:Nat
 w0:World
 F:Fr
def At (X:Run) (cl:Nat) (st:St) (Φ:Act→World→Prop):Prop:=∀ a w,Sim X.n X.base X.w0 X.F (· < cl) st a w→Φ a w
section
variable {P : Program} {X : Run} {cl : Nat} {st : St} {Q : Exit → Act → World → Prop}
theorem at_region {id : Nat} {ops : Array Oper} {dr : Bool} (hm : dr = true → P.follows .mixedOrders = true)
    (h:RG P ops X.n cl 0 ops.toList st [] fun fs st'=>(dr=true→okDraw ops.toList fs=true)∧At X (cl+ops.size) st' (Q .normal)):At X cl st ((Code.region id ops dr).wp P Q):=by
 intro a w hs
 have h:=h (by simp)
 cases dr with
 | false =>
  refine wp_reg (c:=cl) (base:=X.base) (w0:=X.w0) (F:=X.F) (n:=X.n) ?_ hs
  exact Reg.mono (fun fs st' hh a' w' hs'=>hh.2 a' w' hs') h
 | true =>
  refine wp_reg_draw (hm rfl) (c:=cl) (base:=X.base) (w0:=X.w0) (F:=X.F) (n:=X.n) ?_ hs
  exact Reg.mono (fun fs st' hh=>⟨hh.1 rfl,fun a' w' hs'=>hh.2 a' w' hs'⟩) h
theorem at_seq {x y:Code} (h:At X cl st (x.wp P (Exit.then (y.wp P Q) Q))):At X cl st ((Code.seq x y).wp P Q):=fun a w hs=>wp_seq (h a w hs)
theorem at_skip (h:At X cl st (Q .normal)):At X cl st (Code.skip.wp P Q):=fun a w hs=>wp_skip (h a w hs)
theorem at_exit {id:Nat} (h:At X cl st (Q (.exit id))):At X cl st ((Code.exit id).wp P Q):=fun a w hs=>wp_exit (h a w hs)
theorem at_ret (h:At X cl st (Q .ret)):At X cl st (Code.ret.wp P Q):=fun a w hs=>wp_ret (h a w hs)
theorem at_block {id:Nat}{c:Code} (h:At X cl st (c.wp P (Exit.inBlock id Q))):At X cl st ((Code.block id c).wp P Q):=fun a w hs=>wp_block (h a w hs)
theorem at_inBlock {id:Nat} (h:At X cl st (Q .normal)):At X cl st (Exit.inBlock id Q (.exit id)):=fun a w hs=>by
 show (if id=id then Q .normal a w else Q (.exit id) a w)
 rw [if_pos rfl];exact h a w hs
theorem at_outBlock {id id':Nat} (hne:id'≠id) (h:At X cl st (Q (.exit id'))):At X cl st (Exit.inBlock id Q (.exit id')):=fun a w hs=>by
 show (if id'=id then Q .normal a w else Q (.exit id') a w)
 rw [if_neg hne];exact h a w hs
theorem at_cond {T : TL} {H : HL} {x y : Code} {t : Nat} {b : Bool} (hl : Look T t (.v (.bool b))) (ht : b = true → At X cl (mk T H) (x.wp P Q)) (hf : b = false → At X cl (mk T H) (y.wp P Q)) :
    At X cl (mk T H) ((Code.cond (.tmp t) x y).wp P Q):=by
 intro a w hs
 obtain ⟨E,hs⟩:=hs
 have h2:=hs.tmps t
 have h1:(mk T H).T t = .v (.bool b):=hl.eq
 rw [h1] at h2
 exact wp_cond_split (vt_v_eq h2) (fun e=>ht e a w ⟨E,hs⟩) (fun e=>hf e a w ⟨E,hs⟩)
theorem at_condc {x y : Code} {b : Bool} (ht : b = true → At X cl st (x.wp P Q)) (hf : b = false → At X cl st (y.wp P Q)) :
    At X cl st ((Code.cond (.const (.bool b)) x y).wp P Q):=fun a w hs=>wp_cond_split rfl (fun e=>ht e a w hs) (fun e=>hf e a w hs)
theorem at_loop {c : Code} {ι : Type} (S : ι → St) (m : ι → Nat)
    (round:∀ i cl,At X cl (S i) (c.wp P (Exit.then (fun a w=>∃ j cl',m j < m i∧Sim X.n X.base X.w0 X.F (· < cl') (S j) a w) Q))) :
    ∀ i cl,At X cl (S i) ((Code.loop c).wp P Q):=by
 intro i cl a w hs
 classical
 let J:Nat→Act→World→Prop:=fun k a w=>∃ i cl,m i=k∧Sim X.n X.base X.w0 X.F (· < cl) (S i) a w
 let I:Act→World→Prop:=fun a w=>∃ k,J k a w
 let μ:Act→World→Nat:=fun a w=>if h:I a w then Classical.choose (least h) else 0
 have hle:∀ {k a w},J k a w→μ a w≤k:=by
  intro k a w h
  have hI:I a w:=⟨k,h⟩
  simp only [μ,dif_pos hI]
  exact (Classical.choose_spec (least hI)).2 _ h
 refine wp_loop I μ ⟨m i,i,cl,rfl,hs⟩ fun a w hI=>?_
 have hJ:J (μ a w) a w:=by
  simp only [μ,dif_pos hI]
  exact (Classical.choose_spec (least hI)).1
 obtain ⟨i,cl,hmi,hs⟩:=hJ
 refine wp_mono (round i cl a w hs) fun e a' w' hh=>?_
 cases e with
 | normal =>
  obtain ⟨j,cl',hlt,hs'⟩:=hh
  have hJ':J (m j) a' w':=⟨j,cl',rfl,hs'⟩
  exact ⟨⟨_,hJ'⟩,by have:=hle hJ';omega⟩
 | _=>exact hh
theorem at_weak {T T':TL}{H H':HL}{Φ:Act→World→Prop} (hT:∀ p∈T',Look T p.1 p.2) (hH:∀ p∈H',∃ g o,p.2=some (g,o)∧Hook H p.1 g o) (h:At X cl (mk T' H') Φ):At X cl (mk T H) Φ:=by
 intro a w hs
 obtain ⟨E,hs⟩:=hs
 refine h a w ?_
 have hT2:∀ t,lookT T' t = .any∨lookT T' t=lookT T t:=by
  intro t
  unfold lookT
  cases hl:T'.lookup t with
  | none=>exact .inl rfl
  | some x =>
   right
   have hm:(t,x)∈T':=by
    clear hT h
    induction T' with
    | nil=>cases hl
    | cons p T' ih =>
     obtain ⟨t',x'⟩:=p
     simp only [List.lookup] at hl
     split at hl
     ·rename_i e
      have:t=t':=by simpa using e
      cases hl;subst this;simp
     ·exact List.mem_cons_of_mem _ (ih hl)
   have:=(hT _ hm).eq
   simp only at this
   unfold lookT at this
   exact this.symm
 have hH2:∀ s g o,(mk T' H').obj s g=some o→(mk T H).obj s g=some o:=by
  intro s g o ho
  have:lookH H' s=some (g,o):=by
   unfold St.obj mk at ho
   simp only at ho
   split at ho
   ·rename_i g' o' e
    split at ho
    ·rename_i e2;cases ho;subst e2;exact e
    ·cases ho
   ·cases ho
  unfold lookH at this
  cases hl:H'.lookup s with
  | none=>rw [hl] at this;cases this
  | some x =>
   rw [hl] at this
   simp only [Option.getD_some] at this
   subst this
   have hm:(s,some (g,o))∈H':=by
    clear hH ho h
    induction H' with
    | nil=>cases hl
    | cons p H' ih =>
     obtain ⟨t',x'⟩:=p
     simp only [List.lookup] at hl
     split at hl
     ·rename_i e
      have:s=t':=by simpa using e
      cases hl;subst this;simp
     ·exact List.mem_cons_of_mem _ (ih hl)
   obtain ⟨g',o',e,hk⟩:=hH _ hm
   cases e
   exact hk.obj
 let E':Nat→Nat→Option Loc:=fun s g=>if ((mk T' H').obj s g).isSome then E s g else none
 have hE':∀ s g L,E' s g=some L→E s g=some L:=by
  intro s g L h
  simp only [E'] at h
  split at h
  ·exact h
  ·cases h
 have hle:(cx X.base X.F E (· < cl) w).Le (cx X.base X.F E' (· < cl) w):=by
  refine ⟨fun s g L _ h=>hE' s g L h,fun _ h=>h,fun nw b hB=>⟨⟨hB.1,?_,hB.2.2⟩,rfl⟩⟩
  rintro ⟨s,g,L,e1,e2⟩
  exact hB.2.1 ⟨s,g,L,hE' s g L e1,e2⟩
 refine ⟨E',hs.defers,hs.size,hs.glob,hs.below,hs.keep,hs.old,hs.bsz,?_,?_,?_,?_,hs.g0,fun s L h=>hs.init s L (hE' _ _ _ h),?_⟩
 ·intro s g hh
  simp only [E',hh]
  simp
 ·intro s g o ho
  obtain ⟨hg,L,hL,hr⟩:=hs.live s g o (hH2 s g o ho)
  exact ⟨hg,L,by simp only [E',ho];simpa using hL,hr.mono hle fun _ _=>rfl⟩
 ·intro s g L b h1 h2;exact hs.far s g L b (hE' _ _ _ h1) h2
 ·intro s g s' g' L L' b h1 h2 h3 h4;exact hs.inj s g s' g' L L' b (hE' _ _ _ h1) (hE' _ _ _ h2) h3 h4
 ·intro t
  rcases hT2 t with e | e
  ·have:(mk T' H').T t = .any:=e
   rw [this];exact VT.any _ _
  ·have:(mk T' H').T t=(mk T H).T t:=e
   rw [this];exact (hs.tmps t).mono hle
end
end Go.Ar
namespace Go.Ar
open Go.RowKit
inductive Pu:AV→Prop
 | v (x):Pu (.v x)
 | any:Pu .any
 | agg (xs):(∀ x∈xs,Pu x)→Pu (.agg xs)
 | lst (sz xs):(∀ x∈xs,Pu x)→Pu (.lst false sz xs)
 | fptr (x off):Pu x→Pu (.fptr x off)
 | fmp (kv):(∀ p∈kv,Pu p.2)→Pu (.fmp kv)
 | fn (f first caps):(∀ x∈first,Pu x)→(∀ x∈caps,Pu x)→Pu (.fn f first caps)
abbrev Sel:=List ((Nat × Nat) × (Nat × Nat))
inductive Rn (σ:Sel) (Z:List (Nat × Nat × Ob)):AV→AV→Prop
 | pu (x):Pu x→Rn σ Z x x
 | agg (xs ys):xs.length=ys.length→(∀ (i:Nat) x y,xs[i]? = some x→ys[i]? = some y→Rn σ Z x y)→Rn σ Z (.agg xs) (.agg ys)
 | own (s g s' g' sz off len cl):((s,g),(s',g'))∈σ→Rn σ Z (.own s g sz off len cl) (.own s' g' sz off len cl)
 | ptr (s g s' g' i off):((s,g),(s',g'))∈σ→Rn σ Z (.ptr s g i off) (.ptr s' g' i off)
 | mp (s g s' g'):((s,g),(s',g'))∈σ→Rn σ Z (.mp s g) (.mp s' g')
 | fn (f first caps first' caps'):first.length=first'.length→caps.length=caps'.length→(∀ (i:Nat) x y,first[i]? = some x→first'[i]? = some y→Rn σ Z x y)→(∀ (i:Nat) x y,caps[i]? = some x→caps'[i]? = some y→Rn σ Z x y)→Rn σ Z (.fn f first caps) (.fn f first' caps')
 | zlst (s g sz off len cl) (xs ys:List AV):(s,g,.buf sz xs)∈Z→off+len≤xs.length→xs.length=ys.length→(∀ (i:Nat) x y,xs[i]? = some x→ys[i]? = some y→Rn σ Z x y)→Rn σ Z (.own s g sz off len cl) (.lst false sz ((ys.drop off).take len))
 | zptr (s g sz) (xs:List AV) (i off e e'):(s,g,.buf sz xs)∈Z→xs[i]? = some e→Rn σ Z e e'→Rn σ Z (.ptr s g i off) (.fptr e' off)
 | zmp (s g) (kv kv':List (Value × AV)):(s,g,.map kv)∈Z→kv.length=kv'.length→(∀ (i:Nat) p p',kv[i]? = some p→kv'[i]? = some p'→p.1=p'.1)→(∀ (i:Nat) p p',kv[i]? = some p→kv'[i]? = some p'→Rn σ Z p.2 p'.2)→Rn σ Z (.mp s g) (.fmp kv')
structure Cx.Rn (σ:Sel) (Z:List (Nat × Nat × Ob)) (C C':Cx):Prop where
 E:∀ p∈σ,∀ L,C'.E p.2.1 p.2.2=some L→C.E p.1.1 p.1.2=some L
 G:∀ p∈σ,C'.G p.2.2
 B:∀ b,C.B false b→C'.B false b
 w:C'.w=C.w
 Z:∀ z∈Z,∃ L,C.E z.1 z.2.1=some L∧ObR C L z.2.2∧∀ b,L.blk=some b→C'.B false b
theorem VR.pu {C C':Cx} (hB:∀ b,C.B false b→C'.B false b) (hw:C'.w=C.w) {x:AV}{cs:List Value} (h:VR C x cs):Pu x→VR C' x cs:=by
 induction h with
 | v x h1=>intro _;exact .v x h1
 | agg xs cs h1 h2 h3 _ ih =>
  intro hp
  cases hp with
  | agg _ hp=>exact .agg xs cs h1 h2 h3 fun i x hx c hc=>ih i x hx c hc (hp x (List.mem_of_getElem? hx))
 | lst nw sz xs A c cells h1 h2 h3 h4 ih =>
  intro hp
  cases hp with
  | lst _ _ hp =>
   refine .lst false sz xs A c cells h1 (fun j x hx=>ih j x hx (hp x (List.mem_of_getElem? hx))) h3 fun j hj=>?_
   obtain ⟨ad,e,hs,hb,hc⟩:=h4 j hj
   exact ⟨ad,e,hs,hB _ hb,by rw [hw];exact hc⟩
 | own=>intro hp;cases hp
 | ptr=>intro hp;cases hp
 | fptr x off ad cs _ hs hb hc ih =>
  intro hp
  cases hp with
  | fptr _ _ hp=>exact .fptr x off ad cs (ih hp) hs (hB _ hb) (by rw [hw];exact hc)
 | mp=>intro hp;cases hp
 | fmp kv b es clock cells hb h1 h2 _ h4 ih =>
  intro hp
  cases hp with
  | fmp _ hp=>exact .fmp kv b es clock cells (hB _ hb) (by rw [hw];exact h1) h2 (fun i p hip=>ih i p hip (hp p (List.mem_of_getElem? hip))) h4
 | fn f first caps vs ws h1 h2 o1 o2 _ _ ih3 ih4 =>
  intro hp
  cases hp with
  | fn _ _ _ p1 p2=>exact .fn f first caps vs ws h1 h2 o1 o2 (fun i x hx c hc=>ih3 i x hx c hc (p1 x (List.mem_of_getElem? hx))) (fun i x hx c hc=>ih4 i x hx c hc (p2 x (List.mem_of_getElem? hx)))
 | any u h1=>intro _;exact .any u h1
theorem Rn.flat {σ:Sel}{Z:List (Nat × Nat × Ob)}{x y:AV} (h:Rn σ Z x y):flat y=flat x:=by cases h <;> rfl
theorem Rn.lay {σ:Sel}{Z:List (Nat × Nat × Ob)}{x y:AV} (h:Rn σ Z x y) {v:Value}{cs:List Value} (hl:Lay x v cs):Lay y v cs:=by
 cases h <;> exact hl
theorem Rn.vr {σ:Sel}{Z:List (Nat × Nat × Ob)}{C C':Cx} (hc:Cx.Rn σ Z C C') {x y:AV} (h:Rn σ Z x y):∀ {cs:List Value},VR C x cs→VR C' y cs:=by
 induction h with
 | pu x hp=>intro cs hv;exact hv.pu hc.B hc.w hp
 | agg xs ys hl hr ih =>
  intro cs hv
  cases hv with
  | agg _ _ h1 h2 h3 h4 =>
   refine .agg ys cs (by omega) h2 ?_ ?_
   ·intro y hy
    obtain ⟨i,hi⟩:=List.mem_iff_getElem?.1 hy
    have hlt:=(List.getElem?_eq_some_iff.1 hi).1
    have hx:xs[i]? = some xs[i]:=List.getElem?_eq_getElem (by omega)
    rw [(hr i _ y hx hi).flat]
    exact h3 _ (List.mem_of_getElem? hx)
   ·intro i y hy c hc'
    have hlt:=(List.getElem?_eq_some_iff.1 hy).1
    have hx:xs[i]? = some xs[i]:=List.getElem?_eq_getElem (by omega)
    exact ih i _ y hx hy (h4 i _ hx c hc')
 | own s g s' g' sz off len cl hm =>
  intro cs hv
  cases hv with
  | own _ _ _ _ _ _ A c hg h1 h2 h3 =>
   refine .own _ _ _ _ _ _ A c (hc.G _ hm) h1 h2 fun hcc=>?_
   obtain ⟨b,p,e,h4⟩:=h3 hcc
   exact ⟨b,p,e,fun L hL=>h4 L (hc.E _ hm L hL)⟩
 | ptr s g s' g' i off hm =>
  intro cs hv
  cases hv with
  | ptr _ _ _ _ b p hg h2=>exact .ptr _ _ _ _ b p (hc.G _ hm) fun L hL=>h2 L (hc.E _ hm L hL)
 | mp s g s' g' hm =>
  intro cs hv
  cases hv with
  | mp _ _ b hg h2=>exact .mp _ _ b (hc.G _ hm) fun L hL=>h2 L (hc.E _ hm L hL)
 | fn f first caps first' caps' l1 l2 _ _ ih1 ih2 =>
  intro cs hv
  cases hv with
  | fn _ _ _ vs ws h1 h2 o1 o2 h3 h4 =>
   refine .fn f first' caps' vs ws (by omega) (by omega) o1 o2 (fun i y hy c hc'=>?_) (fun i y hy c hc'=>?_)
   ·have hlt:=(List.getElem?_eq_some_iff.1 hy).1
    have hx:first[i]? = some first[i]:=List.getElem?_eq_getElem (by omega)
    exact ih1 i _ y hx hy (h3 i _ hx c hc')
   ·have hlt:=(List.getElem?_eq_some_iff.1 hy).1
    have hx:caps[i]? = some caps[i]:=List.getElem?_eq_getElem (by omega)
    exact ih2 i _ y hx hy (h4 i _ hx c hc')
 | zlst s g sz off len cl xs ys hm hle hl _ ih =>
  intro cs hv
  obtain ⟨L,hL,hob,hB⟩:=hc.Z _ hm
  have hlen:((ys.drop off).take len).length=len:=by simp;omega
  cases hv with
  | own _ _ _ _ _ _ A c hg h1 h2 h3 =>
   have e:(Value.slice A len c) = .slice A ((ys.drop off).take len).length c:=by rw [hlen]
   rw [e]
   by_cases hlen0:len=0
   ·refine .lst false sz _ A c (fun _=>[]) (by omega) (fun j x hx=>?_) (fun j hj=>by omega) (fun j hj=>by omega)
    have:=(List.getElem?_eq_some_iff.1 hx).1
    omega
   obtain ⟨b,p,rfl,h4⟩:=h3 (by omega)
   obtain ⟨hb,hsz,rfl,_⟩:=h4 L hL
   obtain ⟨_,hr⟩:=hob
   simp only [hb] at hr
   obtain ⟨arr,t,a1,a2,a3,a4⟩:=hr
   have a5:∀ j,∃ cs:List Value,j < xs.length→cs.length=sz∧(∀ y,ys[j]? = some y→VR C' y cs)∧∀ (i:Nat) u,cs[i]? = some u→arr[j * sz+i]? = some u:=by
    intro j
    by_cases hj:j < xs.length
    ·have hx:xs[j]? = some xs[j]:=List.getElem?_eq_getElem hj
     obtain ⟨cs,c1,c2,c3⟩:=a4 j _ hx
     exact ⟨cs,fun _=>⟨c1,fun y hy=>ih j _ y hx hy c2,c3⟩⟩
    ·exact ⟨[],fun h=>absurd h hj⟩
   refine .lst false sz _ _ c (fun j=>Classical.choose (a5 (off+j))) (by omega) (fun j x hx=>?_) (fun j hj=>?_) (fun j hj=>?_)
   ·have hj:=(List.getElem?_eq_some_iff.1 hx).1
    rw [List.getElem?_take] at hx
    split at hx
    ·rw [List.getElem?_drop] at hx
     exact (Classical.choose_spec (a5 (off+j)) (by omega)).2.1 x hx
    ·cases hx
   ·exact (Classical.choose_spec (a5 (off+j)) (by omega)).1
   ·refine ⟨_,rfl,rfl,hB b hb,fun i u hu=>?_⟩
    have:=(Classical.choose_spec (a5 (off+j)) (by omega)).2.2 i u hu
    rw [add_mk,hc.w,block_cell a1]
    rw [Nat.add_mul,Nat.add_assoc] at this
    exact this
 | zptr s g sz xs i off e e' hm he _ ih =>
  intro cs hv
  obtain ⟨L,hL,hob,hB⟩:=hc.Z _ hm
  cases hv with
  | ptr _ _ _ _ b p hg h2 =>
   obtain ⟨hb,rfl⟩:=h2 L hL
   obtain ⟨hsz,hr⟩:=hob
   simp only [hb] at hr
   obtain ⟨arr,t,a1,a2,a3,a4⟩:=hr
   obtain ⟨cs,c1,c2,c3⟩:=a4 i e he
   have:=VR.fptr (C:=C') e' off ⟨b,i * L.sz,none⟩ cs (ih c2) rfl (hB b hb) (fun j u hu=>by
    rw [add_mk,hc.w,block_cell a1,hsz]
    exact c3 j u hu)
   rwa [add_mk] at this
 | zmp s g kv kv' hm hl hk hv' ih =>
  intro cs hv
  obtain ⟨L,hL,hob,hB⟩:=hc.Z _ hm
  cases hv with
  | mp _ _ b hg h2 =>
   have hb:=h2 L hL
   obtain ⟨b',es,clock,e,h1,⟨h3,_⟩,h4⟩:=hob
   rw [hb] at e
   cases e
   have a5:∀ j:Nat,∃ cs:List Value,∀ p':Value × AV,kv'[j]? = some p'→VR C' p'.2 cs∧∃ e:MapEntry,es[j]? = some e∧e.key=p'.1∧Lay p'.2 e.val cs:=by
    intro j
    by_cases hj:j < kv.length
    ·have hx:kv[j]? = some kv[j]:=List.getElem?_eq_getElem hj
     obtain ⟨en,cs,c1,c2,c3,c4⟩:=h4 j _ hx
     refine ⟨cs,fun p' hp'=>⟨ih j _ p' hx hp' c4,en,c1,c2.trans (hk j _ p' hx hp'),?_⟩⟩
     exact (hv' j _ p' hx hp').lay c3
    ·refine ⟨[],fun p' hp'=>?_⟩
     have:=(List.getElem?_eq_some_iff.1 hp').1
     omega
   exact .fmp kv' b es clock (fun j=>Classical.choose (a5 j)) (hB b hb) (by rw [hc.w];exact h1) (by omega) (fun j p' hp'=>(Classical.choose_spec (a5 j) p' hp').1) (fun j p' hp'=>(Classical.choose_spec (a5 j) p' hp').2)
theorem Rn.vv {σ:Sel}{Z:List (Nat × Nat × Ob)}{C C':Cx} (hc:Cx.Rn σ Z C C') {x y:AV} (h:Rn σ Z x y) {v:Value} (hv:VV C x v):VV C' y v:=by
 have h0:=h
 cases h with
 | pu x hp =>
  cases x
  case agg xs=>obtain ⟨cs,e,hr⟩:=hv;exact ⟨cs,e,hr.pu hc.B hc.w hp⟩
  case any=>trivial
  case tup=>cases hp
  all_goals exact ⟨hv.1,hv.2.pu hc.B hc.w hp⟩
 | agg xs ys hl hr=>obtain ⟨cs,e,h1⟩:=hv;exact ⟨cs,e,h0.vr hc h1⟩
 | _=>exact ⟨hv.1,h0.vr hc hv.2⟩
inductive RnT (σ:Sel) (Z:List (Nat × Nat × Ob)):AV→AV→Prop
 | one (x y):Rn σ Z x y→RnT σ Z x y
 | tup (xs ys):xs.length=ys.length→(∀ (i:Nat) x y,xs[i]? = some x→ys[i]? = some y→Rn σ Z x y)→RnT σ Z (.tup xs) (.tup ys)
theorem Rn.tupless {σ:Sel}{Z:List (Nat × Nat × Ob)}{x y:AV} (h:Rn σ Z x y):(∀ C v,VT C x v=VV C x v)∧(∀ C v,VT C y v=VV C y v):=by
 cases h with
 | pu x hp=>cases hp <;> exact ⟨fun _ _=>rfl,fun _ _=>rfl⟩
 | _=>exact ⟨fun _ _=>rfl,fun _ _=>rfl⟩
theorem RnT.vt {σ:Sel}{Z:List (Nat × Nat × Ob)}{C C':Cx} (hc:Cx.Rn σ Z C C') {x y:AV} (h:RnT σ Z x y) {v:Value} (hv:VT C x v):VT C' y v:=by
 cases h with
 | one _ _ h =>
  rw [h.tupless.2]
  rw [h.tupless.1] at hv
  exact h.vv hc hv
 | tup xs ys hl hr =>
  obtain ⟨vs,e,h1,h2⟩:=hv
  refine ⟨vs,e,by omega,fun i y hy u hu=>?_⟩
  have hlt:=(List.getElem?_eq_some_iff.1 hy).1
  have hx:xs[i]? = some xs[i]:=List.getElem?_eq_getElem (by omega)
  exact (hr i _ y hx hy).vv hc (h2 i _ hx u hu)
inductive RnO (σ:Sel) (Z:List (Nat × Nat × Ob)):Ob→Ob→Prop
 | buf (sz xs ys):xs.length=ys.length→(∀ (i:Nat) x y,xs[i]? = some x→ys[i]? = some y→Rn σ Z x y)→RnO σ Z (.buf sz xs) (.buf sz ys)
 | map (kv kv'):kv.length=kv'.length→(∀ (i:Nat) p p',kv[i]? = some p→kv'[i]? = some p'→p.1=p'.1∧Rn σ Z p.2 p'.2)→RnO σ Z (.map kv) (.map kv')
theorem RnO.obR {σ:Sel}{Z:List (Nat × Nat × Ob)}{C C':Cx} (hc:Cx.Rn σ Z C C') {o o':Ob} (h:RnO σ Z o o') {L:Loc} (hr:ObR C L o):ObR C' L o':=by
 cases h with
 | buf sz xs ys hl hxy =>
  refine ⟨hr.1,?_⟩
  have h2:=hr.2
  revert h2
  cases L.blk with
  | none=>intro h;have h:xs=[]:=h;subst h;exact List.eq_nil_of_length_eq_zero (by simpa using hl.symm)
  | some b =>
   rintro ⟨arr,t,a1,a2,a3,a4⟩
   refine ⟨arr,t,by rw [hc.w];exact a1,a2,by rw [← hl];exact a3,fun j y hy=>?_⟩
   have hlt:=(List.getElem?_eq_some_iff.1 hy).1
   have hx:xs[j]? = some xs[j]:=List.getElem?_eq_getElem (by omega)
   obtain ⟨cs,b1,b2,b3⟩:=a4 j _ hx
   exact ⟨cs,b1,(hxy j _ y hx hy).vr hc b2,b3⟩
 | map kv kv' hl hxy =>
  obtain ⟨b,es,clock,e,h1,⟨h2,hbn⟩,h3⟩:=hr
  refine ⟨b,es,clock,e,by rw [hc.w];exact h1,⟨by omega,hbn⟩,fun i p' hp'=>?_⟩
  have hlt:=(List.getElem?_eq_some_iff.1 hp').1
  have hp:kv[i]? = some kv[i]:=List.getElem?_eq_getElem (by omega)
  obtain ⟨en,cs,a1,a2,a3,a4⟩:=h3 i _ hp
  obtain ⟨b1,b2⟩:=hxy i _ p' hp hp'
  exact ⟨en,cs,a1,a2.trans b1,b2.lay a3,b2.vr hc a4⟩
def e0:Act:=⟨#[],[]⟩
def objs:Nat→List Ob→HL
 | _,[]=>[]
 | i,o::os=>(i,some (0,o))::objs (i+1) os
def Held (gl:List (Nat × Array Value × TypeId)) (base:Nat) (w0:World) (F:Fr) (E:Nat→Nat→Option Loc) (os:List Ob) (w:World):Prop:=SimE ⟨0,gl⟩ base w0 { F with E0:=fun s=>E s 0 } (· < 1) E (mk [] (objs 0 os)) e0 w
def Does (P:Program) (gl:List (Nat × Array Value × TypeId)) (f:FuncId) (os:List Ob) (xs:List AV) (pins:List Nat) (os':List Ob) (y:AV):Prop :=
 ∀ (F:Fr) (E:Nat→Nat→Option Loc) (w:World) (vs:List Value),Held gl w.heap.size w F E os w→xs.length=vs.length →
  (∀ (i:Nat) x,xs[i]? = some x→∀ v,vs[i]? = some v→VT (cx w.heap.size F E (· < 1) w) x v) →
  Calls P f vs.toArray w fun e w'=>match e with
   | .returned v=>∃ E',Held gl w.heap.size w F E' os' w'∧(∀ i∈pins,∀ L,E' i 0=some L→E i 0=some L)∧VT (cx w.heap.size F E' (· < 1) w') y v
   | _=>False
theorem objs_lookup (os:List Ob):∀ k s,lookH (objs k os) s=if k≤s then (os[s - k]?).map fun o=>(0,o) else none:=by
 induction os with
 | nil=>intro k s;simp [objs,lookH]
 | cons o os ih =>
  intro k s
  unfold lookH objs
  simp only [List.lookup]
  by_cases e:s=k
  ·subst e;simp
  ·have:(s == k)=false:=by simpa using e
   simp only [this]
   have:=ih (k+1) s
   unfold lookH at this
   rw [this]
   by_cases h1:k+1≤s
   ·rw [if_pos h1,if_pos (by omega)]
    have:s - k=(s - (k+1))+1:=by omega
    rw [this,List.getElem?_cons_succ]
   ·rw [if_neg h1,if_neg (by omega)]
theorem objs_obj (os:List Ob) (s g:Nat):(mk [] (objs 0 os)).obj s g=if g=0 then os[s]? else none:=by
 unfold St.obj mk
 simp only [objs_lookup,Nat.zero_le,if_true,Nat.sub_zero]
 cases os[s]? with
 | none=>simp
 | some o =>
  simp only [Option.map_some]
  by_cases e:g=0
  ·subst e;simp
  ·rw [if_neg (fun h=>e h.symm),if_neg e]
def par:Nat→List AV→TL
 | _,[]=>[]
 | i,x::xs=>(i,x)::par (i+1) xs
theorem par_lookup (xs:List AV):∀ k t,lookT (par k xs) t=if k≤t then (xs[t - k]?).getD .any else .any:=by
 induction xs with
 | nil=>intro k t;simp [par,lookT]
 | cons x xs ih =>
  intro k t
  unfold lookT par
  simp only [List.lookup]
  by_cases e:t=k
  ·subst e;simp
  ·have:(t == k)=false:=by simpa using e
   simp only [this]
   have:=ih (k+1) t
   unfold lookT at this
   rw [this]
   by_cases h1:k+1≤t
   ·rw [if_pos h1,if_pos (by omega)]
    have:t - k=(t - (k+1))+1:=by omega
    rw [this,List.getElem?_cons_succ]
   ·rw [if_neg h1,if_neg (by omega)]
def Out (P:Program) (fn:Func) (X:Run) (pins:List Nat) (os:List Ob) (y:AV):Exit→Act→World→Prop :=
 bodyPost P fn fun e w'=>match e with
  | .returned v=>∃ E',Held X.n.gl X.base X.w0 X.F E' os w'∧(∀ i∈pins,∀ L,E' i 0=some L→X.F.E0 i=some L)∧VT (cx X.base X.F E' (· < 1) w') y v
  | _=>False
theorem does_of {P : Program} {gl : List (Nat × Array Value × TypeId)} {f : FuncId} {fn : Func} {c : Code} {os os' : List Ob} {xs : List AV} {pins : List Nat} {y : AV} (hf : P.funcs[f]? = some fn) (hb : fn.body = some c) (hn : xs.length ≤ fn.ntmps)
    (h:∀ X:Run,X.n=⟨fn.ntmps,gl⟩→At X 1 (mk (par 0 xs) (objs 0 os)) (c.wp P (Out P fn X pins os' y))):Does P gl f os xs pins os' y:=by
 intro F E w vs hs hl hv
 refine calls_of_wp hf hb (h ⟨⟨fn.ntmps,gl⟩,w.heap.size,w,{ F with E0:=fun s=>E s 0 }⟩ rfl _ _ ?_)
 refine ⟨E,rfl,by simp;omega,hs.glob,hs.below,hs.keep,hs.old,hs.bsz,hs.dead,hs.live,hs.far,hs.inj,hs.g0,hs.init,fun t=>?_⟩
 have e:(mk (par 0 xs) (objs 0 os)).T t=(xs[t]?).getD .any:=by
  show lookT _ _=_
  rw [par_lookup];simp
 rw [e]
 cases hx:xs[t]? with
 | none=>exact VT.any _ _
 | some x =>
  have hlt:=(List.getElem?_eq_some_iff.1 hx).1
  have hvt:vs[t]? = some vs[t]:=List.getElem?_eq_getElem (by omega)
  have:=hv t x hx _ hvt
  simp only [Option.getD_some]
  have e2:({ tmps:=vs.toArray++Array.replicate (fn.ntmps - vs.toArray.size) undef,defers:=[] }:Act).eval (Operand.tmp t)=vs[t]:=by
   simp only [Act.eval,Array.getD_eq_getD_getElem?]
   rw [Array.getElem?_append_left (by simp;omega)]
   simp [hvt]
  rw [e2]
  exact this
structure Hand (H:HL) (σ:Sel) (Z:List (Nat × Nat × Ob)) (os:List Ob):Prop where
 len:σ.length=os.length
 old:∀ (i:Nat) p o,σ[i]? = some p→os[i]? = some o→p.2=(i,0)∧∃ ob,Hook H p.1.1 p.1.2 ob∧RnO σ Z ob o
 apart:(σ.map (·.1)).Nodup
 gone:∀ z∈Z,Hook H z.1 z.2.1 z.2.2∧(z.1,z.2.1) ∉ σ.map (·.1)
theorem Hand.nil (H:HL):Hand H [] [] []:=⟨rfl,by simp,by simp,by simp⟩
def selE (σ:Sel) (E:Nat→Nat→Option Loc):Nat→Nat→Option Loc:=fun s g=>if g=0 then (σ[s]?).bind fun p=>E p.1.1 p.1.2 else none
theorem selE_some {σ:Sel}{E:Nat→Nat→Option Loc}{s g:Nat}{L:Loc} (h:selE σ E s g=some L):g=0∧∃ p,σ[s]? = some p∧E p.1.1 p.1.2=some L:=by
 unfold selE at h
 split at h
 ·rename_i e
  cases hp:σ[s]? with
  | none=>rw [hp] at h;cases h
  | some p=>rw [hp] at h;exact ⟨e,p,rfl,h⟩
 ·cases h
theorem Hand.held {H : HL} {σ : Sel} {Z : List (Nat × Nat × Ob)} {os : List Ob} (hh : Hand H σ Z os) {T : TL} {n : Nn} {base : Nat} {w0 : World} {F : Fr} {cl : Nat} {E : Nat → Nat → Option Loc} {a : Act} {w : World} (hs : SimE n base w0 F (· < cl) E (Ar.mk T H) a w) :
    Held n.gl base w0 F (selE σ E) os w∧Cx.Rn σ Z (cx base F E (· < cl) w) (cx base F (selE σ E) (· < 1) w):=by
 have hidx:∀ (p:(Nat × Nat) × (Nat × Nat)),p∈σ→∃ i,σ[i]? = some p∧p.2=(i,0):=by
  intro p hp
  obtain ⟨i,hi⟩:=List.mem_iff_getElem?.1 hp
  have hlt:=(List.getElem?_eq_some_iff.1 hi).1
  have ho:os[i]? = some (os[i]'(by have:=hh.len;omega)):=List.getElem?_eq_getElem _
  exact ⟨i,hi,(hh.old i p _ hi ho).1⟩
 have hrn:Cx.Rn σ Z (cx base F E (· < cl) w) (cx base F (selE σ E) (· < 1) w):=by
  refine ⟨?_,?_,?_,rfl,?_⟩
  ·intro p hp L hL
   obtain ⟨i,hi,e⟩:=hidx p hp
   have hL:selE σ E p.2.1 p.2.2=some L:=hL
   rw [e] at hL
   obtain ⟨_,p',hp',h⟩:=selE_some hL
   rw [hi] at hp'
   cases hp'
   exact h
  ·intro p hp
   obtain ⟨i,_,e⟩:=hidx p hp
   show p.2.2 < 1
   rw [e];exact Nat.zero_lt_one
  ·intro b hB
   refine ⟨hB.1,?_,hB.2.2⟩
   rintro ⟨s,g,L,e1,e2⟩
   obtain ⟨_,p,_,e3⟩:=selE_some e1
   exact hB.2.1 ⟨_,_,L,e3,e2⟩
  ·intro z hz
   obtain ⟨hk,hno⟩:=hh.gone z hz
   obtain ⟨_,L,hL,hob⟩:=hs.live _ _ _ (hk.obj (T:=T))
   have hfar:∀ b,L.blk=some b→(base≤b∨F.D b)∧b < w.heap.size:=fun b hb=>hs.far _ _ L b hL hb
   refine ⟨L,hL,hob,fun b hb=>⟨(hfar b hb).2,?_,?_⟩⟩
   ·rintro ⟨s,g,L',e1,e2⟩
    obtain ⟨_,p,hp,e3⟩:=selE_some e1
    have:=hs.inj _ _ _ _ _ _ b hL e3 hb e2
    exact hno (List.mem_map.2 ⟨p,List.mem_of_getElem? hp,(Prod.ext this.1 this.2).symm⟩)
   ·rcases (hfar b hb).1 with h | h
    ·exact .inl h
    ·exact .inr (.inl h)
 refine ⟨⟨rfl,rfl,hs.glob,hs.below,hs.keep,hs.old,hs.bsz,?_,?_,?_,?_,Nat.zero_lt_one,fun _ _ h=>h,fun t=>VT.any _ _⟩,hrn⟩
 ·intro s g h
  rw [objs_obj] at h
  unfold selE
  split
  ·rename_i e
   rw [if_pos e] at h
   have:σ[s]? = none:=by
    rw [List.getElem?_eq_none_iff] at h ⊢
    have:=hh.len
    omega
   rw [this];rfl
  ·rfl
 ·intro s g o h
  rw [objs_obj] at h
  split at h
  ·rename_i e
   subst e
   have hlt:=(List.getElem?_eq_some_iff.1 h).1
   have hp:σ[s]? = some (σ[s]'(by have:=hh.len;omega)):=List.getElem?_eq_getElem _
   obtain ⟨e,ob,hk,hr⟩:=hh.old s _ o hp h
   obtain ⟨_,L,hL,hob⟩:=hs.live _ _ _ (hk.obj (T:=T))
   exact ⟨Nat.zero_lt_one,L,by simp only [selE,if_true,hp];exact hL,hr.obR hrn hob⟩
  ·cases h
 ·intro s g L b h1 h2
  obtain ⟨_,p,_,e3⟩:=selE_some h1
  exact hs.far _ _ L b e3 h2
 ·intro s g s' g' L L' b h1 h2 h3 h4
  obtain ⟨rfl,p,hp,e3⟩:=selE_some h1
  obtain ⟨rfl,p',hp',e4⟩:=selE_some h2
  have:=hs.inj _ _ _ _ _ _ b e3 e4 h3 h4
  refine ⟨?_,rfl⟩
  have hn:=hh.apart
  have i1:(σ.map (·.1))[s]? = some p.1:=by simp [hp]
  have i2:(σ.map (·.1))[s']? = some p'.1:=by simp [hp']
  have e5:p.1=p'.1:=Prod.ext this.1 this.2
  rw [e5] at i1
  exact (List.getElem?_inj (List.getElem?_eq_some_iff.1 i1).1 hn).1 (i1.trans i2.symm)
def resV (tmps:Array Value):List Nat→Value
 | [r]=>tmps.getD r undef
 | rs=>.tuple ((rs.map fun r=>tmps.getD r undef).toArray)
theorem res0 {P:Program}{fn:Func} (h:fn.results = #[]) (tmps:Array Value) (w:World):(results fn tmps).run P w = .ok (resV tmps []) w:=by simp [results,h,resV]
theorem res1 {P:Program}{fn:Func}{t0:Nat} (h:fn.results = #[.tmp t0]) (tmps:Array Value) (w:World):(results fn tmps).run P w = .ok (resV tmps [t0]) w:=by simp [results,h,resV]
theorem res2 {P:Program}{fn:Func}{t0 t1:Nat} (h:fn.results = #[.tmp t0,.tmp t1]) (tmps:Array Value) (w:World):(results fn tmps).run P w = .ok (resV tmps [t0,t1]) w:=by simp [results,h,resV]
theorem at_out1 {P : Program} {fn : Func} {X : Run} {cl : Nat} {T : TL} {H : HL} {r : Nat} {σ : Sel} {Z : List (Nat × Nat × Ob)} {pins : List Nat} {os : List Ob} {x y : AV} (hr : fn.results = #[.tmp r]) (hl : Look T r x) (hh : Hand H σ Z os) (hp : ∀ i ∈ pins, σ[i]? = some ((i, 0), (i, 0))) (hy : RnT σ Z x y) (e : Exit) (he : e = .ret ∨ e = .normal) :
    At X cl (mk T H) (Out P fn X pins os y e):=by
 have key:∀ a w,Sim X.n X.base X.w0 X.F (· < cl) (mk T H) a w→a.defers=[]∧∃ v,(results fn a.tmps).run P w = .ok v w∧∃ E',Held X.n.gl X.base X.w0 X.F E' os w∧(∀ i∈pins,∀ L,E' i 0=some L→X.F.E0 i=some L)∧VT (cx X.base X.F E' (· < 1) w) y v:=by
  rintro a w ⟨E,hs⟩
  obtain ⟨h1,h2⟩:=hh.held hs
  have hpin:∀ i∈pins,∀ L,selE σ E i 0=some L→X.F.E0 i=some L:=by
   intro i hi L hL
   obtain ⟨_,p,hp',h⟩:=selE_some hL
   rw [hp i hi] at hp'
   cases hp'
   exact hs.init i L h
  refine ⟨hs.defers,_,res1 hr a.tmps w,_,h1,hpin,hy.vt h2 ?_⟩
  have:=hs.tmps r
  have e:(mk T H).T r=x:=hl.eq
  rw [e] at this
  exact this
 rcases he with rfl | rfl <;> exact fun a w hs=>key a w hs
inductive Looks (T:TL):List Nat→List AV→Prop
 | nil:Looks T [] []
 | cons (r rs x xs):Look T r x→Looks T rs xs→Looks T (r::rs) (x::xs)
theorem Looks.get {T:TL}{rs:List Nat}{xs:List AV} (h:Looks T rs xs):rs.length=xs.length∧∀ (i:Nat) r x,rs[i]? = some r→xs[i]? = some x→lookT T r=x:=by
 induction h with
 | nil=>exact ⟨rfl,by simp⟩
 | cons r rs x xs h _ ih =>
  refine ⟨by simp [ih.1],fun i r' x' h1 h2=>?_⟩
  cases i with
  | zero=>simp at h1 h2;subst h1;subst h2;exact h.eq
  | succ i=>simp at h1 h2;exact ih.2 i r' x' h1 h2
theorem at_outs {P : Program} {fn : Func} {X : Run} {cl : Nat} {T : TL} {H : HL} {rs : List Nat} {σ : Sel} {Z : List (Nat × Nat × Ob)} {pins : List Nat} {os : List Ob} {xs ys : List AV} (hr : ∀ tmps w, (results fn tmps).run P w = .ok (resV tmps rs) w) (h1 : rs.length ≠ 1) (hl : Looks T rs xs) (hh : Hand H σ Z os) (hp : ∀ i ∈ pins, σ[i]? = some ((i, 0), (i, 0)))
    (hy:RnT σ Z (.tup xs) (.tup ys)) (e:Exit) (he:e = .ret∨e = .normal) (hv:∀ x∈xs,∀ C v,VT C x v=VV C x v):At X cl (mk T H) (Out P fn X pins os (.tup ys) e):=by
 have key:∀ a w,Sim X.n X.base X.w0 X.F (· < cl) (mk T H) a w→a.defers=[]∧∃ v,(results fn a.tmps).run P w = .ok v w∧∃ E',Held X.n.gl X.base X.w0 X.F E' os w∧(∀ i∈pins,∀ L,E' i 0=some L→X.F.E0 i=some L)∧VT (cx X.base X.F E' (· < 1) w) (.tup ys) v:=by
  rintro a w ⟨E,hs⟩
  obtain ⟨k1,k2⟩:=hh.held hs
  have hpin:∀ i∈pins,∀ L,selE σ E i 0=some L→X.F.E0 i=some L:=by
   intro i hi L hL
   obtain ⟨_,p,hp',h⟩:=selE_some hL
   rw [hp i hi] at hp'
   cases hp'
   exact hs.init i L h
  refine ⟨hs.defers,_,hr a.tmps w,_,k1,hpin,hy.vt k2 ?_⟩
  have e1:resV a.tmps rs = .tuple ((rs.map fun r=>a.tmps.getD r undef).toArray):=by
   unfold resV
   split
   ·simp at h1
   ·rfl
  rw [e1]
  obtain ⟨g1,g2⟩:=hl.get
  refine ⟨_,rfl,by simp [g1],fun i x hx y hy=>?_⟩
  rw [List.getElem?_map] at hy
  cases hri:rs[i]? with
  | none=>rw [hri] at hy;cases hy
  | some r =>
   rw [hri] at hy
   simp only [Option.map_some,Option.some.injEq] at hy
   subst hy
   have:=hs.tmps r
   have e:(mk T H).T r=x:=g2 i r x hri hx
   rw [e,hv x (List.mem_of_getElem? hx)] at this
   exact this
 rcases he with rfl | rfl <;> exact fun a w hs=>key a w hs
end Go.Ar
namespace Go.Ar
open Go.RowKit
def callable (P:Program) (f:FuncId):Bool:=match P.funcs[f]? with
 | some fn=>fn.name != "runtime.NumGoroutine" && fn.body.isSome
 | none=>false
theorem callFunc_run {P:Program}{f:FuncId} (h:callable P f=true) (args:Array Value) (w:World):(callFunc f args).run P w = .ok (.enter f args) w:=by
 unfold callable at h
 split at h
 ·rename_i fn hf
  simp only [Bool.and_eq_true,bne_iff_ne,ne_eq] at h
  obtain ⟨h1,h2⟩:=h
  unfold callFunc
  simp only [Go.program,bind,Sem.bind,Sem.run,hf]
  have e1:(fn.name == "runtime.NumGoroutine")=false:=by simpa using h1
  have e2:fn.body.isNone=false:=by
   cases hb:fn.body with
   | none=>rw [hb] at h2;cases h2
   | some c=>rfl
  simp only [e1,e2,Bool.false_eq_true,if_false]
  rfl
 ·cases h
inductive EvL (T:TL):List Operand→List AV→List Nat→Prop
 | nil:EvL T [] [] []
 | cons (x xs y ys ts us):Ev T x y ts→EvL T xs ys us→EvL T (x::xs) (y::ys) (ts++us)
theorem EvL.len {T:TL}{xs:List Operand}{ys:List AV}{ts:List Nat} (h:EvL T xs ys ts):xs.length=ys.length:=by
 induction h <;> simp_all
theorem EvL.vt {C : Cx} {T : TL} {a : Act} {tl : List Nat} (hop : ∀ x z ts, Ev T x z ts → (∀ t ∈ ts, t ∈ tl) → VT C z (a.eval x)) {xs : List Operand} {ys : List AV} {ts : List Nat} (h : EvL T xs ys ts) (hs : ∀ t ∈ ts, t ∈ tl) :
    ∀ (i:Nat) y,ys[i]? = some y→∀ v,(xs.map a.eval)[i]? = some v→VT C y v:=by
 induction h with
 | nil=>simp
 | cons x xs y ys ts us hx _ ih =>
  intro i z hz v hv
  cases i with
  | zero =>
   simp at hz hv
   subst hz;subst hv
   exact hop x _ ts hx fun t ht=>hs t (by simp [ht])
  | succ i =>
   simp only [List.getElem?_cons_succ,List.map_cons] at hz hv
   exact ih (fun t ht=>hs t (by simp [ht])) i z hz v hv
def pos (nm:List (Nat × Nat)) (s:Nat):Option Nat:=nm.findIdx? fun q=>q.1 == s
theorem pos_some {nm:List (Nat × Nat)}{s i:Nat} (h:pos nm s=some i):∃ q,nm[i]? = some q∧q.1=s:=by
 obtain ⟨h1,h2,_⟩:=List.findIdx?_eq_some_iff_getElem.1 h
 exact ⟨nm[i],List.getElem?_eq_getElem h1,by simpa using h2⟩
theorem pos_of {nm:List (Nat × Nat)} (hn:(nm.map (·.1)).Nodup) {i:Nat}{q:Nat × Nat} (h:nm[i]? = some q):pos nm q.1=some i:=by
 cases hp:pos nm q.1 with
 | none =>
  have:=List.findIdx?_eq_none_iff.1 hp q (List.mem_of_getElem? h)
  simp at this
 | some j =>
  obtain ⟨q',h1,h2⟩:=pos_some hp
  have i1:(nm.map (·.1))[i]? = some q.1:=by simp [h]
  have i2:(nm.map (·.1))[j]? = some q.1:=by simp [h1,h2]
  rw [(List.getElem?_inj (List.getElem?_eq_some_iff.1 i1).1 hn).1 (i1.trans i2.symm)]
theorem pos_none {nm:List (Nat × Nat)}{s:Nat} (h:pos nm s=none) {i:Nat}{q:Nat × Nat} (hq:nm[i]? = some q):q.1≠s:=by
 have:=List.findIdx?_eq_none_iff.1 h q (List.mem_of_getElem? hq)
 simpa using this
def callEffs (nm:List (Nat × Nat)) (os:List Ob) (zs:List Nat):HL:=(nm.zip os).map (fun p=>(p.1.1,some (p.1.2,p.2)))++zs.map fun z=>(z,none)
theorem effs_look {nm : List (Nat × Nat)} {os : List Ob} {zs : List Nat} (hl : nm.length = os.length) (s : Nat) :
    (callEffs nm os zs).lookup s=match pos nm s with
     | some i=>match nm[i]?,os[i]? with | some q,some o=>some (some (q.2,o)) | _,_=>none
     | none=>if s∈zs then some none else none:=by
 induction nm generalizing os with
 | nil =>
  have:os=[]:=List.eq_nil_of_length_eq_zero (by simpa using hl.symm)
  subst this
  show (List.lookup s ([]++zs.map fun z=>(z,none)))=_
  rw [List.nil_append]
  show _=if s∈zs then some none else none
  split
  ·rename_i h;exact lookup_kill h
  ·rename_i h;exact lookup_none_of (by simpa using h)
 | cons q nm ih =>
  cases os with
  | nil=>simp at hl
  | cons o os =>
   show (List.lookup s ((q.1,some (q.2,o))::callEffs nm os zs))=_
   simp only [List.lookup]
   by_cases e:s=q.1
   ·subst e
    simp [pos,List.findIdx?_cons]
   ·have e1:(s == q.1)=false:=by simpa using e
    have e2:(q.1 == s)=false:=by simpa using fun h=>e h.symm
    simp only [e1]
    rw [ih (by simpa using hl)]
    have e3:pos (q::nm) s=(pos nm s).map (·+1):=by
     unfold pos
     rw [List.findIdx?_cons]
     simp only [e2,Bool.false_eq_true,if_false]
    rw [e3]
    cases pos nm s with
    | none=>rfl
    | some i=>simp
def sgOf (inp:List (Nat × Nat × Ob)):Sel:=(inp.zipIdx).map fun p=>((p.1.1,p.1.2.1),(p.2,0))
theorem sgOf_get (inp:List (Nat × Nat × Ob)) (i:Nat):(sgOf inp)[i]? = (inp[i]?).map fun p=>((p.1,p.2.1),(i,0)):=by
 unfold sgOf
 rw [List.getElem?_map,List.getElem?_zipIdx]
 cases inp[i]? <;> simp
def tgOf (nm:List (Nat × Nat)):Sel:=nm.zipIdx.map fun p=>((p.2,0),p.1)
theorem tgOf_get (nm:List (Nat × Nat)) (i:Nat):(tgOf nm)[i]? = (nm[i]?).map fun p=>((i,0),p):=by
 unfold tgOf
 rw [List.getElem?_map,List.getElem?_zipIdx]
 cases nm[i]? <;> simp
section
variable {P : Program} {n : Nn} {base : Nat} {w0 : World} {F : Fr} {G : Nat → Prop} {E : Nat → Nat → Option Loc} {st : St} {a : Act} {w : World}
def frOf (base:Nat) (F:Fr) (E:Nat→Nat→Option Loc) (w:World) (σ:Sel) (Z:List (Nat × Nat × Ob)):Fr where
 V:=fun b=>b < w.heap.size∧(∀ s g L,E s g=some L→L.blk=some b→∃ z∈Z,z.1=s∧z.2.1=g)∧(base≤b∨F.D b∨F b)
 D:=fun b=>∃ p∈σ,∃ L,E p.1.1 p.1.2=some L∧L.blk=some b
 E0:=fun s=>selE σ E s 0
structure HandS (st:St) (inp:List (Nat × Nat × Ob)) (Z:List (Nat × Nat × Ob)) (os:List Ob):Prop where
 len:inp.length=os.length
 objs:∀ p∈inp,st.obj p.1 p.2.1=some p.2.2
 conv:∀ (i:Nat) p o,inp[i]? = some p→os[i]? = some o→RnO (sgOf inp) Z p.2.2 o
 apart:(inp.map fun p=>p.1).Nodup
 gone:∀ z∈Z,st.obj z.1 z.2.1=some z.2.2∧z.1 ∉ inp.map fun p=>p.1
theorem HandS.held {inp Z : List (Nat × Nat × Ob)} {os : List Ob} (hh : HandS st inp Z os) (hs : SimE n base w0 F G E st a w) :
    Held n.gl w.heap.size w (frOf base F E w (sgOf inp) Z) (selE (sgOf inp) E) os w∧Cx.Rn (sgOf inp) Z (cx base F E G w) (cx w.heap.size (frOf base F E w (sgOf inp) Z) (selE (sgOf inp) E) (· < 1) w):=by
 have hidx:∀ p∈sgOf inp,∃ (i:Nat) (q:Nat × Nat × Ob),inp[i]? = some q∧p=((q.1,q.2.1),(i,0)):=by
  intro p hp
  obtain ⟨i,hi⟩:=List.mem_iff_getElem?.1 hp
  rw [sgOf_get] at hi
  cases hq:inp[i]? with
  | none=>rw [hq] at hi;cases hi
  | some q=>rw [hq] at hi;exact ⟨i,q,hq,by simpa using hi.symm⟩
 have hrn:Cx.Rn (sgOf inp) Z (cx base F E G w) (cx w.heap.size (frOf base F E w (sgOf inp) Z) (selE (sgOf inp) E) (· < 1) w):=by
  refine ⟨?_,?_,?_,rfl,?_⟩
  ·intro p hp L hL
   obtain ⟨i,q,hi,rfl⟩:=hidx p hp
   have hL:selE (sgOf inp) E i 0=some L:=hL
   obtain ⟨_,p',hp',h⟩:=selE_some hL
   rw [sgOf_get,hi] at hp'
   cases hp'
   exact h
  ·intro p hp
   obtain ⟨i,q,_,rfl⟩:=hidx p hp
   exact Nat.zero_lt_one
  ·intro b hB
   refine ⟨hB.1,?_,.inr (.inr ⟨rfl,hB.1,fun s g L e1 e2=>absurd ⟨s,g,L,e1,e2⟩ hB.2.1,?_⟩)⟩
   ·rintro ⟨s,g,L,e1,e2⟩
    obtain ⟨_,p,_,e3⟩:=selE_some e1
    exact hB.2.1 ⟨_,_,L,e3,e2⟩
   ·rcases hB.2.2 with h | h | ⟨_,h⟩
    ·exact .inl h
    ·exact .inr (.inl h)
    ·exact .inr (.inr h)
  ·intro z hz
   obtain ⟨hk,hno⟩:=hh.gone z hz
   obtain ⟨_,L,hL,hob⟩:=hs.live _ _ _ hk
   have hfar:∀ b,L.blk=some b→(base≤b∨F.D b)∧b < w.heap.size:=fun b hb=>hs.far _ _ L b hL hb
   refine ⟨L,hL,hob,fun b hb=>⟨(hfar b hb).2,?_,.inr (.inr ⟨rfl,(hfar b hb).2,?_,?_⟩)⟩⟩
   ·rintro ⟨s,g,L',e1,e2⟩
    obtain ⟨_,p,hp,e3⟩:=selE_some e1
    obtain ⟨i,q,hi,rfl⟩:=hidx p (List.mem_of_getElem? hp)
    have:=hs.inj _ _ _ _ _ _ b hL e3 hb e2
    exact hno (List.mem_map.2 ⟨q,List.mem_of_getElem? hi,this.1.symm⟩)
   ·intro s g L' e1 e2
    have:=hs.inj _ _ _ _ _ _ b hL e1 hb e2
    exact ⟨z,hz,this.1,this.2⟩
   ·rcases (hfar b hb).1 with h | h
    ·exact .inl h
    ·exact .inr (.inl h)
 refine ⟨⟨rfl,rfl,fun p hp=>?_,Below.refl _ _,fun _ _ _=>rfl,?_,Nat.le_refl _,?_,?_,?_,?_,Nat.zero_lt_one,fun _ _ h=>h,fun t=>VT.any _ _⟩,hrn⟩
 ·obtain ⟨k1,t,k2⟩:=hs.glob p hp
  obtain ⟨k3,k4⟩:=hs.old _ k1
  refine ⟨⟨Nat.lt_of_lt_of_le k3 hs.bsz,fun s g L e1 e2=>?_,.inr (.inr k1)⟩,t,(hs.keep _ k3 k4).trans k2⟩
  rcases (hs.far _ _ _ _ e1 e2).1 with h | h
  ·omega
  ·exact absurd h k4
 ·rintro b ⟨h1,h2,h3⟩
  refine ⟨h1,?_⟩
  rintro ⟨p,hp,L,e1,e2⟩
  obtain ⟨i,q,hi,rfl⟩:=hidx p hp
  obtain ⟨z,hz,e3,_⟩:=h2 _ _ L e1 e2
  exact (hh.gone z hz).2 (List.mem_map.2 ⟨q,List.mem_of_getElem? hi,e3.symm⟩)
 ·intro s g h
  rw [objs_obj] at h
  unfold selE
  split
  ·rename_i e
   rw [if_pos e] at h
   have:(sgOf inp)[s]? = none:=by
    rw [sgOf_get]
    have h5:inp[s]? = none:=by
     rw [List.getElem?_eq_none_iff] at h ⊢
     have:=hh.len
     omega
    rw [h5];rfl
   rw [this];rfl
  ·rfl
 ·intro s g o h
  rw [objs_obj] at h
  split at h
  ·rename_i e
   subst e
   have hlt:=(List.getElem?_eq_some_iff.1 h).1
   have hp:inp[s]? = some (inp[s]'(by have:=hh.len;omega)):=List.getElem?_eq_getElem _
   have hr:=hh.conv s _ o hp h
   obtain ⟨_,L,hL,hob⟩:=hs.live _ _ _ (hh.objs _ (List.mem_of_getElem? hp))
   exact ⟨Nat.zero_lt_one,L,by simp only [selE,if_true,sgOf_get,hp];exact hL,hr.obR hrn hob⟩
  ·cases h
 ·intro s g L b h1 h2
  obtain ⟨_,p,hp,e3⟩:=selE_some h1
  exact ⟨.inr ⟨p,List.mem_of_getElem? hp,L,e3,h2⟩,(hs.far _ _ L b e3 h2).2⟩
 ·intro s g s' g' L L' b h1 h2 h3 h4
  obtain ⟨rfl,p,hp,e3⟩:=selE_some h1
  obtain ⟨rfl,p',hp',e4⟩:=selE_some h2
  have:=hs.inj _ _ _ _ _ _ b e3 e4 h3 h4
  refine ⟨?_,rfl⟩
  rw [sgOf_get] at hp hp'
  cases hq:inp[s]? with
  | none=>rw [hq] at hp;cases hp
  | some q =>
   cases hq':inp[s']? with
   | none=>rw [hq'] at hp';cases hp'
   | some q' =>
    rw [hq] at hp;rw [hq'] at hp'
    simp only [Option.map_some,Option.some.injEq] at hp hp'
    subst hp;subst hp'
    have i1:(inp.map fun p=>p.1)[s]? = some q.1:=by simp [hq]
    have i2:(inp.map fun p=>p.1)[s']? = some q'.1:=by simp [hq']
    have e5:q.1=q'.1:=this.1
    rw [e5] at i1
    exact (List.getElem?_inj (List.getElem?_eq_some_iff.1 i1).1 hh.apart).1 (i1.trans i2.symm)
structure Names (inp:List (Nat × Nat × Ob)) (pins:List Nat) (g0:Nat) (nm:List (Nat × Nat)) (os' os2:List Ob):Prop where
 len:nm.length=os'.length
 len2:os2.length=os'.length
 apart:(nm.map (·.1)).Nodup
 kept:∀ p∈inp,p.1∈nm.map (·.1)
 gen:∀ (i:Nat) q,nm[i]? = some q→q.2=g0∨(i∈pins∧∃ p,inp[i]? = some p∧q=(p.1,p.2.1))
 conv:∀ (i:Nat) o o2,os'[i]? = some o→os2[i]? = some o2→RnO (tgOf nm) [] o o2
theorem SimE.called (hs : SimE n base w0 F G E st a w) {inp Z : List (Nat × Nat × Ob)} {os os' os2 : List Ob} {pins : List Nat} {nm : List (Nat × Nat)} {dst : Option Nat} {r : Rec} {y : AV} {v : Value} {w' : World} {E1 : Nat → Nat → Option Loc}
    (hh:HandS st inp Z os) (hn:Names inp pins r.gen nm os' os2) (hG:¬ G r.gen) (he:r.effs=callEffs nm os2 (Z.map (·.1))) (hd:∀ d,dst=some d→d < n.n)
    (h1:Held n.gl w.heap.size w (frOf base F E w (sgOf inp) Z) E1 os' w') (hpin:∀ i∈pins,∀ L,E1 i 0=some L→selE (sgOf inp) E i 0=some L)
    (hv:VT (cx w.heap.size (frOf base F E w (sgOf inp) Z) E1 (· < 1) w') y v) (hy:RnT (tgOf nm) [] y r.val):Sim n base w0 F (fun g=>G g∨g=r.gen) (st.app dst r) (a.put dst v) w':=by
 let zs:=Z.map (·.1)
 let E':Nat→Nat→Option Loc:=fun s g=>match pos nm s with
  | some i=>(match nm[i]? with | some q=>if q.2=g then E1 i 0 else none | none=>none)
  | none=>if s∈zs then none else E s g
 have hD:∀ b,(frOf base F E w (sgOf inp) Z).D b→∃ p∈inp,∃ L,E p.1 p.2.1=some L∧L.blk=some b:=by
  rintro b ⟨p,hp,L,e1,e2⟩
  obtain ⟨i,hi⟩:=List.mem_iff_getElem?.1 hp
  rw [sgOf_get] at hi
  cases hq:inp[i]? with
  | none=>rw [hq] at hi;cases hi
  | some q =>
   rw [hq] at hi
   simp only [Option.map_some,Option.some.injEq] at hi
   subst hi
   exact ⟨q,List.mem_of_getElem? hq,L,e1,e2⟩
 have hcase:∀ s g L,E' s g=some L→(∃ i,nm[i]? = some (s,g)∧E1 i 0=some L)∨(pos nm s=none∧s ∉ zs∧E s g=some L):=by
  intro s g L h
  simp only [E'] at h
  cases hp:pos nm s with
  | none =>
   rw [hp] at h
   simp only at h
   split at h
   ·cases h
   ·exact .inr ⟨rfl,‹_›,h⟩
  | some i =>
   rw [hp] at h
   obtain ⟨q,hq,e⟩:=pos_some hp
   simp only [hq] at h
   split at h
   ·rename_i e2
    refine .inl ⟨i,?_,h⟩
    rw [hq];subst e;subst e2;rfl
   ·cases h
 have hframe:∀ s g L b,pos nm s=none→E s g=some L→L.blk=some b→¬ (frOf base F E w (sgOf inp) Z).D b∧b < w.heap.size:=by
  intro s g L b hp hL hb
  refine ⟨fun hD'=>?_,(hs.far _ _ _ _ hL hb).2⟩
  obtain ⟨p,hp',L',e1,e2⟩:=hD b hD'
  have:=hs.inj _ _ _ _ _ _ b hL e1 hb e2
  obtain ⟨q,hq,e3⟩:=List.mem_map.1 (hn.kept p hp')
  obtain ⟨i,hi⟩:=List.mem_iff_getElem?.1 hq
  exact pos_none hp hi (e3.trans this.1.symm)
 have hgen:∀ i s g L,nm[i]? = some (s,g)→E1 i 0=some L→g=r.gen∨(E s g=some L∧G g):=by
  intro i s g L hi hL
  rcases hn.gen i _ hi with h | ⟨hp,p,hip,e⟩
  ·exact .inl h
  ·cases e
   obtain ⟨_,p',hp',h⟩:=selE_some (hpin i hp L hL)
   rw [sgOf_get,hip] at hp'
   cases hp'
   exact .inr ⟨h,(hs.live _ _ _ (hh.objs p (List.mem_of_getElem? hip))).1⟩
 have hle:(cx base F E G w).Le (cx base F E' (fun g=>G g∨g=r.gen) w'):=by
  refine ⟨fun s g L hg h=>?_,fun g hg=>.inl hg,fun nw b hB=>?_⟩
  ·rcases hcase s g L h with ⟨i,hi,hL⟩ | ⟨_,_,h⟩
   ·rcases hgen i s g L hi hL with e | ⟨e,_⟩
    ·exact absurd (e ▸ hg) hG
    ·exact e
   ·exact h
  ·have hnD:¬ (frOf base F E w (sgOf inp) Z).D b:=fun hd'=>by
    obtain ⟨p,_,L,e1,e2⟩:=hD b hd'
    exact hB.2.1 ⟨_,_,L,e1,e2⟩
   refine ⟨⟨Nat.lt_of_lt_of_le hB.1 h1.bsz,?_,hB.2.2⟩,h1.keep b hB.1 hnD⟩
   rintro ⟨s,g,L,e1,e2⟩
   rcases hcase s g L e1 with ⟨i,hi,hL⟩ | ⟨_,_,h⟩
   ·rcases (h1.far _ _ _ _ hL e2).1 with h | h
    ·exact absurd hB.1 (Nat.not_lt.2 h)
    ·exact hnD h
   ·exact hB.2.1 ⟨s,g,L,h,e2⟩
 have hobj : ∀ s g, (st.app dst r).obj s g = match pos nm s with
     | some i=>(match nm[i]?,os2[i]? with | some q,some o=>if q.2=g then some o else none | _,_=>none)
     | none=>if s∈zs then none else st.obj s g:=by
  intro s g
  have hH : (st.app dst r).H s = match pos nm s with
      | some i=>(match nm[i]?,os2[i]? with | some q,some o=>some (q.2,o) | _,_=>st.H s)
      | none=>if s∈zs then none else st.H s:=by
   show effsH r.effs st.H s=_
   rw [he]
   unfold effsH
   rw [effs_look (hn.len.trans hn.len2.symm)]
   cases hp:pos nm s with
   | none=>simp only;split <;> rename_i h <;> split at h <;> simp_all [zs]
   | some i =>
    simp only
    cases nm[i]? <;> cases os2[i]? <;> rfl
  unfold St.obj
  rw [hH]
  cases hp:pos nm s with
  | none =>
   simp only
   by_cases hz:s∈zs
   ·simp only [if_pos hz]
   ·simp only [if_neg hz]
  | some i =>
   obtain ⟨q,hq,e⟩:=pos_some hp
   have hlt:=(List.getElem?_eq_some_iff.1 hq).1
   have ho:os2[i]? = some (os2[i]'(by have:=hn.len;have:=hn.len2;omega)):=List.getElem?_eq_getElem _
   simp only [hq,ho]
 have hrn:Cx.Rn (tgOf nm) [] (cx w.heap.size (frOf base F E w (sgOf inp) Z) E1 (· < 1) w') (cx base F E' (fun g=>G g∨g=r.gen) w'):=by
  have hidx:∀ p∈tgOf nm,∃ (i:Nat) (q:Nat × Nat),nm[i]? = some q∧p=((i,0),q):=by
   intro p hp
   obtain ⟨i,hi⟩:=List.mem_iff_getElem?.1 hp
   rw [tgOf_get] at hi
   cases hq:nm[i]? with
   | none=>rw [hq] at hi;cases hi
   | some q=>rw [hq] at hi;exact ⟨i,q,hq,by simpa using hi.symm⟩
  refine ⟨?_,?_,?_,rfl,by simp⟩
  ·intro p hp L hL
   obtain ⟨i,q,hi,rfl⟩:=hidx p hp
   have hL:E' q.1 q.2=some L:=hL
   show E1 i 0=some L
   simp only [E',pos_of hn.apart hi,hi,if_true] at hL
   exact hL
  ·intro p hp
   obtain ⟨i,q,hi,rfl⟩:=hidx p hp
   show G q.2∨q.2=r.gen
   rcases hn.gen i q hi with h | ⟨_,p,hip,e⟩
   ·exact .inr h
   ·subst e;exact .inl (hs.live _ _ _ (hh.objs p (List.mem_of_getElem? hip))).1
  ·intro b hB
   refine ⟨hB.1,?_,?_⟩
   ·rintro ⟨s,g,L,e1,e2⟩
    rcases hcase s g L e1 with ⟨i,_,hL⟩ | ⟨hp,hz,h⟩
    ·exact hB.2.1 ⟨_,_,L,hL,e2⟩
    ·obtain ⟨f1,f2⟩:=hframe s g L b hp h e2
     rcases hB.2.2 with h3 | h3 | ⟨_,h3⟩
     ·omega
     ·exact f1 h3
     ·obtain ⟨z,hz',e3,_⟩:=h3.2.1 s g L h e2
      exact hz (List.mem_map.2 ⟨z,hz',e3⟩)
   ·rcases hB.2.2 with h3 | h3 | ⟨_,h3⟩
    ·exact .inl (Nat.le_trans hs.bsz h3)
    ·obtain ⟨p,_,L,e1,e2⟩:=hD b h3
     rcases (hs.far _ _ _ _ e1 e2).1 with h | h
     ·exact .inl h
     ·exact .inr (.inl h)
    ·rcases h3.2.2 with h | h | h
     ·exact .inl h
     ·exact .inr (.inl h)
     ·exact .inr (.inr ⟨rfl,h⟩)
 refine ⟨E',hs.step hle h1.below hd ?_ ?_ ?_ ?_ ?_ (.inl hs.g0) ?_ (hy.vt hrn hv)⟩
 ·intro b hb hnD
  refine h1.keep b (Nat.lt_of_lt_of_le hb hs.bsz) fun hD'=>?_
  obtain ⟨p,_,L,e1,e2⟩:=hD b hD'
  rcases (hs.far _ _ _ _ e1 e2).1 with h | h
  ·omega
  ·exact hnD h
 ·intro s g h
  rw [hobj] at h
  simp only [E']
  cases hp:pos nm s with
  | none =>
   rw [hp] at h
   simp only at h ⊢
   split
   ·rfl
   ·rename_i hz;rw [if_neg hz] at h;exact hs.dead s g h
  | some i =>
   rw [hp] at h
   obtain ⟨q,hq,e⟩:=pos_some hp
   have hlt:=(List.getElem?_eq_some_iff.1 hq).1
   have ho:os2[i]? = some (os2[i]'(by have:=hn.len;have:=hn.len2;omega)):=List.getElem?_eq_getElem _
   simp only [hq,ho] at h ⊢
   split
   ·rename_i e2;rw [if_pos e2] at h;cases h
   ·rfl
 ·intro s g o h
  rw [hobj] at h
  cases hp:pos nm s with
  | none =>
   rw [hp] at h
   simp only at h
   split at h
   ·cases h
   ·rename_i hz
    obtain ⟨hg,L,hL,hr⟩:=hs.live s g o h
    refine ⟨.inl hg,L,by simp only [E',hp,if_neg hz];exact hL,hr.mono hle fun b hb=>?_⟩
    obtain ⟨f1,f2⟩:=hframe s g L b hp hL hb
    exact h1.keep b f2 f1
  | some i =>
   rw [hp] at h
   obtain ⟨q,hq,e⟩:=pos_some hp
   have hlt:=(List.getElem?_eq_some_iff.1 hq).1
   have ho:os2[i]? = some (os2[i]'(by have:=hn.len;have:=hn.len2;omega)):=List.getElem?_eq_getElem _
   have ho':os'[i]? = some (os'[i]'(by have:=hn.len;omega)):=List.getElem?_eq_getElem _
   simp only [hq,ho] at h
   split at h
   ·rename_i e2
    cases h
    subst e2
    obtain ⟨_,L,hL,hr⟩:=h1.live i 0 _ (by rw [objs_obj,if_pos rfl];exact ho')
    refine ⟨?_,L,by simp only [E',hp,hq,if_true];exact hL,(hn.conv i _ _ ho' ho).obR hrn hr⟩
    rcases hn.gen i q hq with h | ⟨_,p,hip,e⟩
    ·exact .inr h
    ·subst e;exact .inl (hs.live _ _ _ (hh.objs p (List.mem_of_getElem? hip))).1
   ·cases h
 ·intro s g L b e1 e2
  rcases hcase s g L e1 with ⟨i,_,hL⟩ | ⟨hp,hz,h⟩
  ·have:=h1.far _ _ _ _ hL e2
   refine ⟨?_,this.2⟩
   rcases this.1 with h | h
   ·exact .inl (Nat.le_trans hs.bsz h)
   ·obtain ⟨p,_,L',k1,k2⟩:=hD b h
    exact (hs.far _ _ _ _ k1 k2).1
  ·have:=hs.far _ _ _ _ h e2
   exact ⟨this.1,Nat.lt_of_lt_of_le this.2 h1.bsz⟩
 ·intro s g s' g' L L' b e1 e2 e3 e4
  rcases hcase s g L e1 with ⟨i,hi,hL⟩ | ⟨hp,hz,h⟩
  ·rcases hcase s' g' L' e2 with ⟨i',hi',hL'⟩ | ⟨hp',hz',h'⟩
   ·obtain ⟨rfl,_⟩:=h1.inj _ _ _ _ _ _ b hL hL' e3 e4
    rw [hi] at hi'
    cases hi'
    exact ⟨rfl,rfl⟩
   ·obtain ⟨f1,f2⟩:=hframe s' g' L' b hp' h' e4
    rcases (h1.far _ _ _ _ hL e3).1 with k | k
    ·omega
    ·exact absurd k f1
  ·rcases hcase s' g' L' e2 with ⟨i',hi',hL'⟩ | ⟨hp',hz',h'⟩
   ·obtain ⟨f1,f2⟩:=hframe s g L b hp h e3
    rcases (h1.far _ _ _ _ hL' e4).1 with k | k
    ·omega
    ·exact absurd k f1
   ·exact hs.inj _ _ _ _ _ _ b h h' e3 e4
 ·intro s L h
  rcases hcase s 0 L h with ⟨i,hi,hL⟩ | ⟨_,_,h⟩
  ·rcases hgen i s 0 L hi hL with e | ⟨e,_⟩
   ·exact absurd (e ▸ hs.g0) hG
   ·exact hs.init _ _ e
  ·exact hs.init _ _ h
end
end Go.Ar
namespace Go.Ar
open Go.RowKit
inductive RnL (σ:Sel) (Z:List (Nat × Nat × Ob)):List AV→List AV→Prop
 | nil:RnL σ Z [] []
 | cons (x xs y ys):Rn σ Z x y→RnL σ Z xs ys→RnL σ Z (x::xs) (y::ys)
theorem RnL.get {σ:Sel}{Z:List (Nat × Nat × Ob)}{xs ys:List AV} (h:RnL σ Z xs ys):xs.length=ys.length∧∀ (i:Nat) x y,xs[i]? = some x→ys[i]? = some y→Rn σ Z x y:=by
 induction h with
 | nil=>simp
 | cons x xs y ys h _ ih =>
  refine ⟨by simp [ih.1],fun i a b h1 h2=>?_⟩
  cases i with
  | zero=>simp at h1 h2;subst h1;subst h2;exact h
  | succ i=>simp at h1 h2;exact ih.2 i a b h1 h2
inductive RnOs (σ:Sel) (Z:List (Nat × Nat × Ob)):List Ob→List Ob→Prop
 | nil:RnOs σ Z [] []
 | cons (x xs y ys):RnO σ Z x y→RnOs σ Z xs ys→RnOs σ Z (x::xs) (y::ys)
theorem RnOs.get {σ:Sel}{Z:List (Nat × Nat × Ob)}{xs ys:List Ob} (h:RnOs σ Z xs ys):xs.length=ys.length∧∀ (i:Nat) x y,xs[i]? = some x→ys[i]? = some y→RnO σ Z x y:=by
 induction h with
 | nil=>simp
 | cons x xs y ys h _ ih =>
  refine ⟨by simp [ih.1],fun i a b h1 h2=>?_⟩
  cases i with
  | zero=>simp at h1 h2;subst h1;subst h2;exact h
  | succ i=>simp at h1 h2;exact ih.2 i a b h1 h2
section
variable {P : Program} {ops : Array Oper} {n : Nn} {c k : Nat} {rest : List Oper} {T : TL} {H : HL} {fs : List Foot} {K : List Foot → St → Prop}
theorem rg_call_core {dst : Option Nat} {ty : Nat} {pos : String} {aft : Array Edge} {gd : Option (Nat × Bool)} {gts ts0 ts1 : List Nat} {x : Operand} {args : List Operand} {at_ : Array TypeId} {f : FuncId} {first asx caps ys : List AV}
    {os os' os2:List Ob}{pins:List Nat}{y yr:AV}{inp Z:List (Nat × Nat × Ob)}{nm:List (Nat × Nat)}{es:HL}
    (hdoes:Does P n.gl f os ys pins os' y) (hgd:Gd ops T gd gts) (hx:Ev T x (.fn (.func f) first caps) ts0) (has:EvL T args asx ts1) (hc:callable P f=true) (hfl:first.all flat=true∧caps.all flat=true)
    (hinp:∀ p∈inp,Hook H p.1 p.2.1 p.2.2) (hZ:∀ z∈Z,Hook H z.1 z.2.1 z.2.2) (hap:(inp.map (·.1)).Nodup) (hno:∀ z∈Z,z.1 ∉ inp.map fun p=>p.1)
    (hos:RnOs (sgOf inp) Z (inp.map (·.2.2)) os) (hargs:RnL (sgOf inp) Z (first++asx++caps) ys) (hnm:Names inp pins (c+k) nm os' os2) (hy:RnT (tgOf nm) [] y yr)
    (hes:callEffs nm os2 (Z.map (·.1))=es) (hd:∀ d,dst=some d→d < n.n)
    (next:RG P ops n c (k+1) rest ((mk T H).app dst ⟨(gts++(ts0++ts1)).map fun t=>(t,lookT T t),inp++Z,yr,c+k,es⟩) (⟨gts++(ts0++ts1),(inp++Z).map (·.1),es.map (·.1)⟩::fs) K) :
    RG P ops n c k (⟨dst,.call ⟨.value x,args.toArray,at_⟩,ty,pos,aft,gd⟩::rest) (mk T H) fs K:=by
 refine rg_core (r:=⟨(gts++(ts0++ts1)).map fun t=>(t,lookT T t),inp++Z,yr,c+k,es⟩) hgd rfl ?_ rfl ?_ ?_
 ·intro p hp
  rcases List.mem_append.1 hp with h | h
  ·exact hinp p h
  ·exact hZ p h
 ·intro base w0 F G E st a w Q K' hG hp hs hK
  have hop:∀ x z ts,Ev T x z ts→(∀ t∈ts,t∈ts0++ts1)→VT (cx base F E G w) z (a.eval x):=fun x z ts hx hts=>hs.opd hp (opd_of rfl hx hts)
  obtain ⟨g1,g2⟩:=hos.get
  have hh:HandS st inp Z os:=by
   refine ⟨by simpa using g1,fun p hp'=>hp.reads p (List.mem_append_left _ hp'),fun i p o h1 h2=>g2 i _ o (by simp [h1]) h2,hap,fun z hz=>⟨hp.reads z (List.mem_append_right _ hz),hno z hz⟩⟩
  obtain ⟨held,hrn⟩:=hh.held hs
  obtain ⟨_,hfn⟩:=hop x _ ts0 hx (by simp +contextual)
  generalize e1:a.eval x=u at hfn
  cases hfn with
  | fn _ _ _ vs ws l1 l2 o1 o2 h3 h4 =>
   have hexec:(execOp a.eval ⟨dst,.call ⟨.value x,args.toArray,at_⟩,ty,pos,aft,gd⟩).run P w = .ok (.enter f (vs++args.map a.eval++ws).toArray) w:=by
    have:=callFunc_run hc ((vs++args.map a.eval++ws).toArray) w
    simp only [execOp,resolve,e1,Deferred.ofValue]
    rw [run_bind_ok (v:={ target:=.fn (.func f) ws.toArray,args:=vs.toArray++args.toArray.map a.eval }) (w':=w) rfl]
    simp only [invoke]
    rw [← this]
    simp
   unfold Oper.wp
   rw [hexec,Oper.upon_enter]
   obtain ⟨k1,k2⟩:=hargs.get
   have hvt:∀ (i:Nat) z,(first++asx++caps)[i]? = some z→∀ v,(vs++args.map a.eval++ws)[i]? = some v→VT (cx base F E G w) z v:=by
    intro i z hz v hv
    have hal:=has.len
    rw [List.append_assoc] at hz hv
    rcases Nat.lt_or_ge i first.length with hi | hi
    ·rw [List.getElem?_append_left hi] at hz
     rw [List.getElem?_append_left (by omega)] at hv
     exact vt_of (List.all_eq_true.1 hfl.1 z (List.mem_of_getElem? hz)) (o1 v (List.mem_of_getElem? hv)) (h3 i z hz v hv)
    ·rw [List.getElem?_append_right hi] at hz
     rw [List.getElem?_append_right (by omega)] at hv
     rw [← l1] at hv
     rcases Nat.lt_or_ge (i - first.length) asx.length with hj | hj
     ·rw [List.getElem?_append_left hj] at hz
      rw [List.getElem?_append_left (by simp;omega)] at hv
      exact has.vt hop (by simp +contextual) _ z hz v hv
     ·rw [List.getElem?_append_right hj] at hz
      rw [List.getElem?_append_right (by simp;omega)] at hv
      simp only [List.length_map,hal] at hv
      exact vt_of (List.all_eq_true.1 hfl.2 z (List.mem_of_getElem? hz)) (o2 v (List.mem_of_getElem? hv)) (h4 _ z hz v hv)
   have hcall:=hdoes (frOf base F E w (sgOf inp) Z) (selE (sgOf inp) E) w (vs++args.map a.eval++ws) held (by
    rw [← k1];simp [l1,l2,has.len]) (by
    intro i x' hx' v hv
    have hlt:=(List.getElem?_eq_some_iff.1 hx').1
    have hz:(first++asx++caps)[i]? = some ((first++asx++caps)[i]'(by omega)):=List.getElem?_eq_getElem _
    exact (RnT.one _ _ (k2 i _ x' hz hx')).vt hrn (hvt i _ hz v hv))
   refine hcall.mono fun e w' hpost=>?_
   cases e with
   | returned v =>
    obtain ⟨E',h1,hpin,hv⟩:=hpost
    exact hK _ _ (hs.called hh hnm hG hes.symm hd h1 hpin hv hy)
   | panicked=>exact hpost.elim
   | outgrown=>exact hpost.elim
 ·have e:(⟨(gts++(ts0++ts1)).map fun t=>(t,lookT T t),inp++Z,yr,c+k,es⟩:Rec).foot=⟨gts++(ts0++ts1),(inp++Z).map (·.1),es.map (·.1)⟩:=foot_of
  rw [e]
  exact next
theorem rg_call {d ty : Nat} {pos : String} {aft : Array Edge} {gd : Option (Nat × Bool)} {gts ts0 ts1 : List Nat} {x : Operand} {args : List Operand} {at_ : Array TypeId} {f : FuncId} {first asx caps ys : List AV}
    {os' os2:List Ob}{y yr:AV}{nm:List (Nat × Nat)}{es:HL} (Z:List (Nat × Nat × Ob))
    (hdoes:Does P n.gl f [] ys [] os' y) (hgd:Gd ops T gd gts) (hx:Ev T x (.fn (.func f) first caps) ts0) (has:EvL T args asx ts1) (hc:callable P f=true) (hfl:first.all flat=true∧caps.all flat=true)
    (hZ:∀ z∈Z,Hook H z.1 z.2.1 z.2.2) (hargs:RnL [] Z (first++asx++caps) ys) (hnm:Names [] [] (c+k) nm os' os2) (hy:RnT (tgOf nm) [] y yr)
    (hes:callEffs nm os2 (Z.map (·.1))=es) (hd:d < n.n)
    (next:RG P ops n c (k+1) rest (mk ((d,yr)::T) (es++H)) (⟨gts++(ts0++ts1),Z.map (·.1),es.map (·.1)⟩::fs) K) :
    RG P ops n c k (⟨some d,.call ⟨.value x,args.toArray,at_⟩,ty,pos,aft,gd⟩::rest) (mk T H) fs K:=by
 refine rg_call_core (inp:=[]) (Z:=Z) (os:=[]) hdoes hgd hx has hc hfl (by simp) hZ (by simp) (by simp) .nil hargs hnm hy hes (by intro d' e;cases e;exact hd) ?_
 rw [app_mk]
 exact next
theorem Names.nil (g:Nat):Names [] [] g [] [] []:=⟨rfl,rfl,by simp,by simp,by simp,by simp⟩
theorem rg_callp {d ty : Nat} {pos : String} {aft : Array Edge} {gd : Option (Nat × Bool)} {gts ts0 ts1 : List Nat} {x : Operand} {args : List Operand} {at_ : Array TypeId} {f : FuncId} {first asx caps ys : List AV} {y yr : AV} (Z : List (Nat × Nat × Ob))
    (hdoes:Does P n.gl f [] ys [] [] y) (hgd:Gd ops T gd gts) (hx:Ev T x (.fn (.func f) first caps) ts0) (has:EvL T args asx ts1) (hc:callable P f=true) (hfl:first.all flat=true∧caps.all flat=true)
    (hZ:∀ z∈Z,Hook H z.1 z.2.1 z.2.2) (hargs:RnL [] Z (first++asx++caps) ys) (hy:RnT [] [] y yr) (hd:d < n.n)
    (next:RG P ops n c (k+1) rest (mk ((d,yr)::T) ((Z.map fun z=>(z.1,none))++H)) (⟨gts++(ts0++ts1),Z.map (·.1),Z.map (·.1)⟩::fs) K) :
    RG P ops n c k (⟨some d,.call ⟨.value x,args.toArray,at_⟩,ty,pos,aft,gd⟩::rest) (mk T H) fs K:=by
 refine rg_call (nm:=[]) (os':=[]) (os2:=[]) Z hdoes hgd hx has hc hfl hZ hargs (Names.nil _) hy (es:=Z.map fun z=>(z.1,none)) (by simp [callEffs]) hd ?_
 simpa [List.map_map,Function.comp_def] using next
end
end Go.Ar
namespace Go.Ar
open Go.RowKit
def binVal2 (op:BinOp) (k k':IntKind) (p q:Int):Option Value :=
 match op with
 | .quo=>if k=k'∧q≠0 then some (.int k (k.wrap (p.tdiv q))) else none
 | .rem=>if k=k'∧q≠0 then some (.int k (p.tmod q)) else none
 | .and=>if k=k' then some (.int k (k.wrap (BitVec.ofInt k.bits p &&& BitVec.ofInt k.bits q).toNat)) else none
 | .or=>if k=k' then some (.int k (k.wrap (BitVec.ofInt k.bits p ||| BitVec.ofInt k.bits q).toNat)) else none
 | .xor=>if k=k' then some (.int k (k.wrap (BitVec.ofInt k.bits p ^^^ BitVec.ofInt k.bits q).toNat)) else none
 | .andNot=>if k=k' then some (.int k (k.wrap (BitVec.ofInt k.bits p &&& ~~~BitVec.ofInt k.bits q).toNat)) else none
 | .shl=>if 0≤q then some (.int k (k.wrap (p * 2 ^ (min q.toNat k.bits)))) else none
 | .shr=>if 0≤q then some (.int k (p.fdiv (2 ^ (min q.toNat k.bits)))) else none
 | _=>none
section
variable {P : Program}
theorem bin_run2 {op:BinOp}{k k':IntKind}{p q:Int}{v:Value} (h:binVal2 op k k' p q=some v) (t:TypeId) (w:World):(binOp op t (.int k p) (.int k' q)).run P w = .ok v w∧one v=true:=by
 unfold binVal2 at h
 cases op <;> simp only [reduceCtorEq,Option.ite_none_right_eq_some,Option.some.injEq] at h
 case quo=>obtain ⟨⟨rfl,h0⟩,rfl⟩:=h;simp [binOp,Op.intDiv,h0,pure,one,Value.oneCell']
 case rem=>obtain ⟨⟨rfl,h0⟩,rfl⟩:=h;simp [binOp,Op.intDiv,h0,pure,one,Value.oneCell']
 case shl =>
  obtain ⟨h0,rfl⟩:=h
  have:¬ q < 0:=by omega
  simp [binOp,Op.shift,this,pure,one,Value.oneCell']
 case shr =>
  obtain ⟨h0,rfl⟩:=h
  have:¬ q < 0:=by omega
  simp [binOp,Op.shift,this,pure,one,Value.oneCell']
 all_goals
  obtain ⟨rfl,rfl⟩:=h
  simp [binOp,Op.intBits,pure,one,Value.oneCell']
end
section
variable {P : Program} {ops : Array Oper} {n : Nn} {c k : Nat} {rest : List Oper} {T : TL} {H : HL} {fs : List Foot} {K : List Foot → St → Prop}
theorem rg_bin2 {d ty : Nat} {pos : String} {aft : Array Edge} {gd : Option (Nat × Bool)} {gts ts1 ts2 : List Nat} {op : BinOp} {t t' : TypeId} {x1 x2 : Operand} {k1 k2 : IntKind} {p q : Int} {v : Value} (hgd : Gd ops T gd gts) (h1 : Ev T x1 (.v (.int k1 p)) ts1) (h2 : Ev T x2 (.v (.int k2 q)) ts2)
    (hv:binVal2 op k1 k2 p q=some v) (hd:d < n.n)
    (next:RG P ops n c (k+1) rest (mk ((d,.v v)::T) H) (⟨gts++(ts1++ts2),[],[]⟩::fs) K):RG P ops n c k (⟨some d,.binOp op t x1 x2 t',ty,pos,aft,gd⟩::rest) (mk T H) fs K :=
 rg_val rfl hd hgd (fun C a w _ hop _=>by
  have e1:=vt_v_eq (hop x1 _ ts1 h1 (by simp +contextual))
  have e2:=vt_v_eq (hop x2 _ ts2 h2 (by simp +contextual))
  obtain ⟨hr,ho⟩:=bin_run2 (P:=P) hv t w
  refine ⟨v,?_,vt_v ho⟩
  simp only [execOp,e1,e2]
  rw [run_bind_ok (v:=v) (w':=w)]
  ·rfl
  ·rw [run_bind_ok (guard_int w)];exact hr) next
theorem rg_not {d ty : Nat} {pos : String} {aft : Array Edge} {gd : Option (Nat × Bool)} {gts ts : List Nat} {t : TypeId} {x : Operand} {b : Bool} (hgd : Gd ops T gd gts) (hx : Ev T x (.v (.bool b)) ts) (hd : d < n.n)
    (next:RG P ops n c (k+1) rest (mk ((d,.v (.bool (!b)))::T) H) (⟨gts++ts,[],[]⟩::fs) K):RG P ops n c k (⟨some d,.unOp .not t x,ty,pos,aft,gd⟩::rest) (mk T H) fs K :=
 rg_val rfl hd hgd (fun C a w _ hop _=>by
  have e:=vt_v_eq (hop x _ ts hx fun _ h=>h)
  exact ⟨.bool (!b),by simp only [execOp,e];rfl,vt_v rfl⟩) next
theorem rg_conv {d ty : Nat} {pos : String} {aft : Array Edge} {gd : Option (Nat × Bool)} {gts ts : List Nat} {t t' : TypeId} {x : Operand} {k1 k2 : IntKind} {p : Int} (hgd : Gd ops T gd gts) (hx : Ev T x (.v (.int k1 p)) ts)
    (ht:(P.underlying t).isSome=true) (ht':P.underlying t'=some (.int k2)) (hd:d < n.n)
    (next:RG P ops n c (k+1) rest (mk ((d,.v (.int k2 (k2.wrap p)))::T) H) (⟨gts++ts,[],[]⟩::fs) K):RG P ops n c k (⟨some d,.convert t t' x,ty,pos,aft,gd⟩::rest) (mk T H) fs K :=
 rg_val rfl hd hgd (fun C a w _ hop _=>by
  have e:=vt_v_eq (hop x _ ts hx fun _ h=>h)
  refine ⟨.int k2 (k2.wrap p),?_,vt_v rfl⟩
  obtain ⟨u,hu⟩:=Option.isSome_iff_exists.1 ht
  simp only [execOp,e,convert]
  rw [run_bind_ok (v:=.int k2 (k2.wrap p)) (w':=w)]
  ·rfl
  ·rw [run_bind_ok (run_underlying hu w),run_bind_ok (run_underlying ht' w)]
   cases u <;> rfl) next
theorem rg_extract {d ty i : Nat} {pos : String} {aft : Array Edge} {gd : Option (Nat × Bool)} {gts ts : List Nat} {x : Operand} {xs : List AV} {y : AV} (hgd : Gd ops T gd gts) (hx : Ev T x (.tup xs) ts) (hy : xs[i]? = some y) (hd : d < n.n)
    (next:RG P ops n c (k+1) rest (mk ((d,y)::T) H) (⟨gts++ts,[],[]⟩::fs) K):RG P ops n c k (⟨some d,.extract x i,ty,pos,aft,gd⟩::rest) (mk T H) fs K :=
 rg_val rfl hd hgd (fun C a w _ hop _=>by
  obtain ⟨vs,e,hl,hv⟩:=hop x _ ts hx fun _ h=>h
  have hlt:=(List.getElem?_eq_some_iff.1 hy).1
  have hvi:vs[i]? = some vs[i]:=List.getElem?_eq_getElem (by omega)
  refine ⟨vs[i],?_,?_⟩
  ·simp only [execOp,e,Instr.extract]
   have:vs.toArray[i]? = some vs[i]:=by simp
   simp only [this]
   rfl
  ·have:=hv i y hy _ hvi
   cases y <;> first | exact this | exact False.elim this) next
theorem rg_makeFunc {d ty : Nat} {pos : String} {aft : Array Edge} {gd : Option (Nat × Bool)} {gts ts1 ts2 : List Nat} {f : Fn} {first caps : List Operand} {xs ys : List AV} (hgd : Gd ops T gd gts) (h1 : EvL T first xs ts1) (h2 : EvL T caps ys ts2)
    (hf:(xs++ys).all (fun x=>flat x && (szOf x == some 1))=true) (hd:d < n.n)
    (next:RG P ops n c (k+1) rest (mk ((d,.fn f xs ys)::T) H) (⟨gts++(ts1++ts2),[],[]⟩::fs) K):RG P ops n c k (⟨some d,.makeFunc f first.toArray caps.toArray,ty,pos,aft,gd⟩::rest) (mk T H) fs K :=
 rg_val rfl hd hgd (fun C a w _ hop _=>by
  have key:∀ (x:AV) v,x∈xs++ys→VT C x v→one v=true∧VR C x [v]:=by
   intro x v hx hv
   have:=List.all_eq_true.1 hf x hx
   simp only [Bool.and_eq_true,beq_iff_eq] at this
   obtain ⟨f1,f2⟩:=this
   cases x <;> simp only [flat,szOf,Bool.false_eq_true,reduceCtorEq] at f1 f2 <;> exact hv
  have v1:=h1.vt hop (by simp +contextual)
  have v2:=h2.vt hop (by simp +contextual)
  have l1:=h1.len
  have l2:=h2.len
  refine ⟨.func f ((first.map a.eval).toArray) ((caps.map a.eval).toArray),?_,rfl,.fn _ _ _ _ _ (by simp [l1]) (by simp [l2]) ?_ ?_ ?_ ?_⟩
  ·simp only [execOp,Instr.makeFunc]
   simp [pure,bind,Sem.bind,Sem.run]
  ·intro v hv
   obtain ⟨i,hi⟩:=List.mem_iff_getElem?.1 hv
   have hlt:=(List.getElem?_eq_some_iff.1 hi).1
   have hx:xs[i]? = some (xs[i]'(by simp at hlt;omega)):=List.getElem?_eq_getElem _
   exact (key _ v (by simp [List.mem_of_getElem? hx]) (v1 i _ hx v hi)).1
  ·intro v hv
   obtain ⟨i,hi⟩:=List.mem_iff_getElem?.1 hv
   have hlt:=(List.getElem?_eq_some_iff.1 hi).1
   have hx:ys[i]? = some (ys[i]'(by simp at hlt;omega)):=List.getElem?_eq_getElem _
   exact (key _ v (by simp [List.mem_of_getElem? hx]) (v2 i _ hx v hi)).1
  ·intro i x hx v hv;exact (key x v (by simp [List.mem_of_getElem? hx]) (v1 i x hx v hv)).2
  ·intro i x hx v hv;exact (key x v (by simp [List.mem_of_getElem? hx]) (v2 i x hx v hv)).2) next
theorem rg_fnilCheck {d ty : Nat} {pos : String} {aft : Array Edge} {gd : Option (Nat × Bool)} {gts ts : List Nat} {x : Operand} {e : AV} {off : Nat} (hgd : Gd ops T gd gts) (hx : Ev T x (.fptr e off) ts) (hd : d < n.n)
    (next:RG P ops n c (k+1) rest (mk ((d,.fptr e off)::T) H) (⟨gts++ts,[],[]⟩::fs) K):RG P ops n c k (⟨some d,.nilCheck x,ty,pos,aft,gd⟩::rest) (mk T H) fs K :=
 rg_val rfl hd hgd (fun C a w _ hop hB=>by
  obtain ⟨h1,h2⟩:=hop x _ ts hx fun _ h=>h
  generalize e1:a.eval x=u at h1 h2
  have h3:=h2
  cases h2 with
  | fptr _ _ ad cs g1 g2 g3 g4 =>
   refine ⟨.pointer (some (ad.add off)),?_,rfl,h3⟩
   simp only [execOp,e1]
   rfl) next
end
end Go.Ar
namespace Go.Ar
open Go.RowKit
def zc (P:Program) (t:TypeId):Option (List Value) :=
 match P.info? t with
 | some i=>match i.zero with
  | some z=>if z.cells.toList.all one then some z.cells.toList else none
  | none=>none
 | none=>none
theorem zc_run {P:Program}{t:TypeId}{zs:List Value} (h:zc P t=some zs) (w:World):∃ z:Value,(zeroValue t).run P w = .ok z w∧z.cells=zs.toArray∧zs.all one=true:=by
 unfold zc at h
 split at h
 ·rename_i i hi
  split at h
  ·rename_i z hz
   split at h
   ·rename_i hc
    cases h
    exact ⟨z,by unfold zeroValue typeInfo;simp [Go.program,bind,Sem.bind,Sem.run,hi,hz,pure],rfl,hc⟩
   ·cases h
  ·cases h
 ·cases h
def asElems (sz:Nat) (xs:List AV) (zs:List Value):Prop:=∀ C,Elems C sz xs zs
theorem elems_one {zs:List Value} (h:zs.all one=true):asElems zs.length [zeroA zs] zs:=fun _=>.single (zeroA_VR h)
theorem elems_cells {zs:List Value} (h:zs.all one=true):asElems 1 (zs.map .v) zs:=by
 intro C
 induction zs with
 | nil=>exact .nil _ _
 | cons z zs ih =>
  simp only [List.all_cons,Bool.and_eq_true] at h
  exact (Elems.single (.v z h.1)).append (ih h.2)
section
variable {P : Program} {ops : Array Oper} {n : Nn} {c k : Nat} {rest : List Oper} {T : TL} {H : HL} {fs : List Foot} {K : List Foot → St → Prop}
theorem rg_alloc {d ty s sz : Nat} {pos : String} {aft : Array Edge} {gd : Option (Nat × Bool)} {gts : List Nat} {t : TypeId} {zs : List Value} {xs : List AV} (hgd : Gd ops T gd gts) (ht : zc P t = some zs) (hx : asElems sz xs zs) (hd : d < n.n)
    (next:RG P ops n c (k+1) rest (mk ((d,.ptr s (c+k) 0 0)::T) ((s,some (c+k,.buf sz xs))::H)) (⟨gts++[],[],[s]⟩::fs) K):RG P ops n c k (⟨some d,.alloc t,ty,pos,aft,gd⟩::rest) (mk T H) fs K :=
 rg_new true (rd:=[]) (len:=0) rfl hd hgd (by simp) rfl (fun C a w _ _ hop=>by
  obtain ⟨z,h1,h2,h3⟩:=zc_run ht w
  refine ⟨zs.toArray,t,0,?_,Nat.le_refl _,by simp,zs,hx C,by simp⟩
  simp only [execOp,Instr.alloc]
  rw [run_bind_ok (v:=.pointer (some ⟨w.heap.size,0,none⟩)) (w':=w.alloc (.cells zs.toArray t))]
  ·rfl
  ·rw [run_bind_ok h1]
   simp only [newVar,newRow,h2]
   rfl) next
inductive EvO (T:TL):Option Operand→Option Nat→List Nat→Prop
 | none:EvO T .none .none []
 | some (x ts) (kd:IntKind) (q:Int) (i:Nat):Ev T x (.v (.int kd q)) ts→q=(i:Int)→EvO T (.some x) (.some i) ts
theorem bound_run {x:Value}{kd:IntKind}{i y:Nat} (hx:x = .int kd (i:Int)) (h:i≤y) (code:BoundsCode) (w:World):(Instr.sliceBound x y code).run P w = .ok i w:=by
 subst hx
 unfold Instr.sliceBound
 rw [run_bind_ok (v:=(kd,(i:Int))) (w':=w) rfl]
 simp only [Int.natCast_nonneg,Int.ofNat_le,h,and_self,if_true,Int.toNat_natCast]
 rfl
def isO:Option Value→Option Nat→Prop
 | none,none=>True
 | some v,some i=>∃ kd,v = .int kd (i:Int)
 | _,_=>False
theorem EvO.val {C : Cx} {a : Act} {tl : List Nat} (hop : ∀ x z ts, Ev T x z ts → (∀ t ∈ ts, t ∈ tl) → VT C z (a.eval x)) {x : Option Operand} {i : Option Nat} {ts : List Nat} (h : EvO T x i ts) (hs : ∀ t ∈ ts, t ∈ tl) :
    isO (x.map a.eval) i:=by
 cases h with
 | none=>trivial
 | some x ts kd q i hx hq=>subst hq;exact ⟨kd,vt_v_eq (hop x _ ts hx hs)⟩
theorem bounds_run {lo hi : Option Value} {l h : Option Nat} (h1 : isO lo l) (h2 : isO hi h) {isS : Bool} {len cap : Nat} (hle : l.getD 0 ≤ h.getD len) (hlen : h.getD len ≤ cap) (w : World) :
    (Instr.sliceBounds isS len cap lo hi none).run P w = .ok (l.getD 0,h.getD len,cap) w:=by
 cases hi with
 | none =>
  cases h with
  | some=>exact h2.elim
  | none =>
   cases lo with
   | none =>
    cases l with
    | some=>exact h1.elim
    | none=>rfl
   | some v =>
    cases l with
    | none=>exact h1.elim
    | some i =>
     obtain ⟨kd,e⟩:=h1
     unfold Instr.sliceBounds
     show ((Instr.sliceBound v len _) >>= _).run P w=_
     rw [run_bind_ok (bound_run (y:=len) e hle _ w)]
     rfl
 | some u =>
  cases h with
  | none=>exact h2.elim
  | some j =>
   obtain ⟨kd2,e2⟩:=h2
   unfold Instr.sliceBounds
   show ((Instr.sliceBound u cap _) >>= _).run P w=_
   rw [run_bind_ok (bound_run e2 hlen _ w)]
   cases lo with
   | none =>
    cases l with
    | some=>exact h1.elim
    | none=>rfl
   | some v =>
    cases l with
    | none=>exact h1.elim
    | some i =>
     obtain ⟨kd,e⟩:=h1
     show ((Instr.sliceBound v j _) >>= _).run P w=_
     rw [run_bind_ok (bound_run (y:=j) e hle _ w)]
     rfl
theorem slice_run {t e : TypeId} {m : Nat} (ht : sl P t = some (e, m)) {A : Option Addr} {len cap l h mx : Nat} {lo hi mo : Option Value} {w : World} (hb : (Instr.sliceBounds true len cap lo hi mo).run P w = .ok (l, h, mx) w) :
    (Instr.sliceAt t (.slice A len cap) lo hi mo).run P w = .ok (.slice (if mx=l then A else A.map (·.add (l * m))) (h - l) (mx - l)) w:=by
 obtain ⟨_,h1,h2,_⟩:=sl_parts ht w
 unfold Instr.sliceAt
 rw [run_bind_ok h1]
 simp only
 unfold Instr.slice
 rw [run_bind_ok h1]
 simp only
 rw [run_bind_ok hb]
 simp only
 rw [run_bind_ok h2]
 rfl
theorem rg_slice {d ty : Nat} {pos : String} {aft : Array Edge} {gd : Option (Nat × Bool)} {gts ts ts1 ts2 : List Nat} {t e : TypeId} {x : Operand} {lo hi : Option Operand} {l h : Option Nat} {s g sz off len : Nat} {cl cl' : Bool} (hgd : Gd ops T gd gts)
    (hx:Ev T x (.own s g sz off len cl) ts) (h1:EvO T lo l ts1) (h2:EvO T hi h ts2) (ht:sl P t=some (e,sz)) (hle:l.getD 0≤h.getD len) (hlen:h.getD len≤len) (hcl:cl'=true→cl=true∧h.getD len=len) (hd:d < n.n)
    (next:RG P ops n c (k+1) rest (mk ((d,.own s g sz (off+l.getD 0) (h.getD len - l.getD 0) cl')::T) H) (⟨gts++(ts++ts1++ts2),[],[]⟩::fs) K):RG P ops n c k (⟨some d,.slice t x lo hi none,ty,pos,aft,gd⟩::rest) (mk T H) fs K :=
 rg_val rfl hd hgd (fun C a w _ hop hB=>by
  obtain ⟨_,r1⟩:=hop x _ ts hx (by simp +contextual)
  generalize e1:a.eval x=u at r1
  cases r1 with
  | own _ _ _ _ _ _ A cc hg g1 g2 g3 =>
   have hb:=bounds_run (P:=P) (h1.val hop (by simp +contextual)) (h2.val hop (by simp +contextual)) (isS:=true) hle (Nat.le_trans hlen g1) w
   refine ⟨_,?_,rfl,.own s g sz _ _ cl' (if cc=l.getD 0 then A else A.map (·.add (l.getD 0 * sz))) (cc - l.getD 0) hg (by omega) (fun hc=>?_) fun hc=>?_⟩
   ·simp only [execOp,e1,Option.map_none]
    rw [run_bind_ok (slice_run ht hb)]
    rfl
   ·obtain ⟨a1,a2⟩:=hcl hc
    have:=g2 a1
    omega
   ·obtain ⟨b,p,rfl,g4⟩:=g3 (by omega)
    rw [if_neg (by omega)]
    refine ⟨b,p+l.getD 0 * sz,by simp [add_mk],fun L hL=>?_⟩
    obtain ⟨a1,a2,a3,a4⟩:=g4 L hL
    refine ⟨a1,a2,by rw [a3,Nat.add_mul],?_⟩
    have:off+l.getD 0+(cc - l.getD 0)=off+cc:=by omega
    rw [this];exact a4) next
theorem rg_fslice {d ty : Nat} {pos : String} {aft : Array Edge} {gd : Option (Nat × Bool)} {gts ts ts1 ts2 : List Nat} {t e : TypeId} {x : Operand} {lo hi : Option Operand} {l h : Option Nat} {nw : Bool} {sz : Nat} {xs : List AV} (hgd : Gd ops T gd gts)
    (hx:Ev T x (.lst nw sz xs) ts) (h1:EvO T lo l ts1) (h2:EvO T hi h ts2) (ht:sl P t=some (e,sz)) (hle:l.getD 0≤h.getD xs.length) (hlen:h.getD xs.length≤xs.length) (hd:d < n.n)
    (next:RG P ops n c (k+1) rest (mk ((d,.lst nw sz ((xs.take (h.getD xs.length)).drop (l.getD 0)))::T) H) (⟨gts++(ts++ts1++ts2),[],[]⟩::fs) K):RG P ops n c k (⟨some d,.slice t x lo hi none,ty,pos,aft,gd⟩::rest) (mk T H) fs K :=
 rg_val rfl hd hgd (fun C a w _ hop hB=>by
  obtain ⟨_,r1⟩:=hop x _ ts hx (by simp +contextual)
  generalize e1:a.eval x=u at r1
  cases r1 with
  | lst _ _ _ A cc cells g1 g2 g3 g4 =>
   have hb:=bounds_run (P:=P) (h1.val hop (by simp +contextual)) (h2.val hop (by simp +contextual)) (isS:=true) hle (Nat.le_trans hlen g1) w
   generalize hl0:l.getD 0=l0 at *
   generalize hh0:h.getD xs.length=h0 at *
   have hln:((xs.take h0).drop l0).length=h0 - l0:=by simp;omega
   have hgt:∀ (j:Nat) y,((xs.take h0).drop l0)[j]? = some y→xs[l0+j]? = some y:=by
    intro j y hy
    rw [List.getElem?_drop,List.getElem?_take] at hy
    split at hy
    ·exact hy
    ·cases hy
   refine ⟨.slice (if cc=l0 then A else A.map (·.add (l0 * sz))) (h0 - l0) (cc - l0),?_,rfl,?_⟩
   ·simp only [execOp,e1,Option.map_none]
    rw [run_bind_ok (slice_run ht hb)]
    rfl
   ·rw [← hln]
    refine .lst nw sz _ _ _ (fun j=>cells (l0+j)) (by omega) (fun j y hy=>g2 _ y (hgt j y hy)) (fun j hj=>g3 _ (by omega)) fun j hj=>?_
    obtain ⟨ad,rfl,a1,a2,a3⟩:=g4 (l0+j) (by omega)
    rw [if_neg (by omega)]
    obtain ⟨b,o,sp⟩:=ad
    simp only at a1
    subst a1
    simp only [Option.map_some,add_mk]
    refine ⟨_,rfl,rfl,a2,fun i u hu=>?_⟩
    have:=a3 i u hu
    rw [add_mk] at this
    rw [add_mk]
    rw [Nat.add_mul] at this
    rw [← this]
    congr 2;omega) next
theorem rg_nslice {d ty : Nat} {pos : String} {aft : Array Edge} {gd : Option (Nat × Bool)} {gts ts ts1 ts2 : List Nat} {t e : TypeId} {x : Operand} {lo hi : Option Operand} {l h : Option Nat} {sz : Nat} (hgd : Gd ops T gd gts)
    (hx:Ev T x (.v (.slice none 0 0)) ts) (h1:EvO T lo l ts1) (h2:EvO T hi h ts2) (ht:sl P t=some (e,sz)) (hl:l.getD 0=0) (hh:h.getD 0=0) (hd:d < n.n)
    (next:RG P ops n c (k+1) rest (mk ((d,.v (.slice none 0 0))::T) H) (⟨gts++(ts++ts1++ts2),[],[]⟩::fs) K):RG P ops n c k (⟨some d,.slice t x lo hi none,ty,pos,aft,gd⟩::rest) (mk T H) fs K :=
 rg_val rfl hd hgd (fun C a w _ hop hB=>by
  have e1:=vt_v_eq (hop x _ ts hx (by simp +contextual))
  have hb:=bounds_run (P:=P) (h1.val hop (by simp +contextual)) (h2.val hop (by simp +contextual)) (isS:=true) (len:=0) (cap:=0) (by omega) (by omega) w
  refine ⟨.slice none 0 0,?_,vt_v rfl⟩
  simp only [execOp,e1,Option.map_none]
  rw [run_bind_ok (slice_run ht hb)]
  simp [hl,hh]) next
def ar (P:Program) (t:TypeId):Option (Nat × TypeId × Nat) :=
 match P.underlying t with
 | some (.array m e)=>match P.info? e with
  | some i=>some (m,e,i.size)
  | none=>none
 | _=>none
theorem ar_parts {t e:TypeId}{m sz:Nat} (h:ar P t=some (m,e,sz)) (w:World):(underlying t).run P w = .ok (.array m e) w∧(sizeOf e).run P w = .ok sz w:=by
 unfold ar at h
 split at h
 ·rename_i m' e' he
  split at h
  ·rename_i i hi
   simp only [Option.some.injEq,Prod.mk.injEq] at h
   obtain ⟨rfl,rfl,rfl⟩:=h
   exact ⟨run_underlying he w,by unfold sizeOf typeInfo;simp [Go.program,bind,Sem.bind,Sem.run,hi,pure]⟩
  ·cases h
 ·cases h
theorem aindex_run {t e : TypeId} {m sz : Nat} (h : ar P t = some (m, e, sz)) {ad : Addr} {i : Nat} {kd : IntKind} (hi : i < m) (w : World) :
    (Instr.indexAt t (.pointer (some ad)) (.int kd (i:Int))).run P w = .ok (.pointer (some (ad.add (i * sz)))) w:=by
 obtain ⟨h1,h2⟩:=ar_parts h w
 unfold Instr.indexAt
 rw [run_bind_ok (v:=(kd,(i:Int))) (w':=w) rfl]
 simp only
 rw [run_bind_ok h1]
 simp only
 rw [run_bind_ok (v:=ad) (w':=w) rfl]
 rw [run_bind_ok (v:=(some ad,m,e)) (w':=w) rfl]
 rw [run_bind_ok h1]
 simp only [Int.natCast_nonneg,Int.ofNat_lt,hi,and_self,if_true,Int.toNat_natCast]
 rw [run_bind_ok h2]
 rfl
theorem rg_aindex {d ty : Nat} {pos : String} {aft : Array Edge} {gd : Option (Nat × Bool)} {gts ts1 ts2 : List Nat} {t e : TypeId} {x1 x2 : Operand} {s g j off sz m i : Nat} {q : Int} {kd : IntKind} (hgd : Gd ops T gd gts)
    (h1:Ev T x1 (.ptr s g j off) ts1) (h2:Ev T x2 (.v (.int kd q)) ts2) (ht:ar P t=some (m,e,sz)) (hq:q=(i:Int)) (hi:i < m) (hd:d < n.n)
    (next:RG P ops n c (k+1) rest (mk ((d,.ptr s g j (off+i * sz))::T) H) (⟨gts++(ts1++ts2),[],[]⟩::fs) K):RG P ops n c k (⟨some d,.indexAddr t x1 x2,ty,pos,aft,gd⟩::rest) (mk T H) fs K :=
 rg_val rfl hd hgd (fun C a w _ hop hB=>by
  obtain ⟨_,r1⟩:=hop x1 _ ts1 h1 (by simp +contextual)
  have e2:=vt_v_eq (hop x2 _ ts2 h2 (by simp +contextual))
  generalize e1:a.eval x1=u at r1
  cases r1 with
  | ptr _ _ _ _ b p hg h2 =>
   refine ⟨.pointer (some ⟨b,p+i * sz,none⟩),?_,rfl,.ptr _ _ _ _ _ _ hg fun L hL=>?_⟩
   ·simp only [execOp,e1,e2,hq]
    rw [run_bind_ok (aindex_run ht hi w),add_mk]
    rfl
   ·obtain ⟨a1,a2⟩:=h2 L hL
    exact ⟨a1,by omega⟩) next
theorem rg_bindex {d ty : Nat} {pos : String} {aft : Array Edge} {gd : Option (Nat × Bool)} {gts ts1 ts2 : List Nat} {t e : TypeId} {x1 x2 : Operand} {s g j sz m i : Nat} {q : Int} {kd : IntKind} {xs : List AV} (hgd : Gd ops T gd gts)
    (h1:Ev T x1 (.ptr s g j 0) ts1) (h2:Ev T x2 (.v (.int kd q)) ts2) (hh:Hook H s g (.buf sz xs)) (ht:ar P t=some (m,e,sz)) (hq:q=(i:Int)) (hi:i < m) (hd:d < n.n)
    (next:RG P ops n c (k+1) rest (mk ((d,.ptr s g (j+i) 0)::T) H) (⟨gts++(ts1++ts2),[s],[]⟩::fs) K):RG P ops n c k (⟨some d,.indexAddr t x1 x2,ty,pos,aft,gd⟩::rest) (mk T H) fs K :=
 rg_read rfl hd hgd hh (fun C a w L _ hL hr hop hB=>by
  obtain ⟨_,r1⟩:=hop x1 _ ts1 h1 (by simp +contextual)
  have e2:=vt_v_eq (hop x2 _ ts2 h2 (by simp +contextual))
  generalize e1:a.eval x1=u at r1
  cases r1 with
  | ptr _ _ _ _ b p hg h2 =>
   obtain ⟨a1,a2⟩:=h2 L hL
   refine ⟨.pointer (some ⟨b,p+i * sz,none⟩),?_,rfl,.ptr _ _ _ _ _ _ hg fun L' hL'=>?_⟩
   ·simp only [execOp,e1,e2,hq]
    rw [run_bind_ok (aindex_run ht hi w),add_mk]
    rfl
   ·rw [hL] at hL'
    cases hL'
    refine ⟨a1,?_⟩
    rw [a2,hr.1,Nat.add_mul];omega) next
theorem rg_aslice {d ty : Nat} {pos : String} {aft : Array Edge} {gd : Option (Nat × Bool)} {gts ts ts1 ts2 : List Nat} {t e : TypeId} {x : Operand} {lo hi : Option Operand} {l h : Option Nat} {s g sz m : Nat} {xs : List AV} (hgd : Gd ops T gd gts)
    (hx:Ev T x (.ptr s g 0 0) ts) (h1:EvO T lo l ts1) (h2:EvO T hi h ts2) (hh:Hook H s g (.buf sz xs)) (hxl:xs.length=m) (ht:ar P t=some (m,e,sz)) (hle:l.getD 0≤h.getD m) (hlen:h.getD m≤m) (hd:d < n.n)
    (next:RG P ops n c (k+1) rest (mk ((d,.own s g sz (l.getD 0) (h.getD m - l.getD 0) false)::T) H) (⟨gts++(ts++ts1++ts2),[s],[]⟩::fs) K):RG P ops n c k (⟨some d,.slice t x lo hi none,ty,pos,aft,gd⟩::rest) (mk T H) fs K :=
 rg_read rfl hd hgd hh (fun C a w L _ hL hr hop hB=>by
  obtain ⟨_,r1⟩:=hop x _ ts hx (by simp +contextual)
  generalize e1:a.eval x=u at r1
  have hb:=bounds_run (P:=P) (h1.val hop (by simp +contextual)) (h2.val hop (by simp +contextual)) (isS:=false) (len:=m) (cap:=m) hle hlen w
  obtain ⟨k1,k2⟩:=ar_parts ht w
  cases r1 with
  | ptr _ _ _ _ b p hg h2 =>
   obtain ⟨a1,a2⟩:=h2 L hL
   refine ⟨_,?_,rfl,.own s g sz _ _ false (some (if m=l.getD 0 then ⟨b,p,none⟩ else ⟨b,p+l.getD 0 * sz,none⟩)) (m - l.getD 0) hg (by omega) (by simp) fun hc=>?_⟩
   ·simp only [execOp,e1,Option.map_none]
    unfold Instr.sliceAt
    rw [run_bind_ok (v:=.slice (some (if m=l.getD 0 then ⟨b,p,none⟩ else ⟨b,p+l.getD 0 * sz,none⟩)) (h.getD m - l.getD 0) (m - l.getD 0)) (w':=w)]
    ·rfl
    ·rw [run_bind_ok k1]
     simp only
     rw [run_bind_ok (v:=⟨b,p,none⟩) (w':=w) rfl]
     rw [run_bind_ok hb]
     simp only
     rw [run_bind_ok k2,add_mk]
     rfl
   ·rw [if_neg (by omega)]
    refine ⟨b,p+l.getD 0 * sz,rfl,fun L' hL'=>?_⟩
    rw [hL] at hL'
    cases hL'
    refine ⟨a1,hr.1,by omega,?_⟩
    have h3:=hr.2
    rw [a1] at h3
    obtain ⟨arr,tt,q1,q2,q3,q4⟩:=h3
    rw [← q2]
    refine Nat.le_trans (Nat.mul_le_mul_right _ ?_) q3
    omega) next
end
end Go.Ar
namespace Go.Ar
open Go.RowKit
structure Mp (κ ν:Type) [DecidableEq κ] where
 l:List (κ × ν)
 nd:(l.map (·.1)).Nodup
namespace Mp
variable {κ ν : Type} [DecidableEq κ]
def empty:Mp κ ν:=⟨[],by simp⟩
def get? (m:Mp κ ν) (k:κ):Option ν:=m.l.lookup k
def setL (l:List (κ × ν)) (k:κ) (v:ν):List (κ × ν):=if k∈l.map (·.1) then l.map (fun p=>if p.1=k then (k,v) else p) else l++[(k,v)]
theorem setL_keys (l:List (κ × ν)) (k:κ) (v:ν):(setL l k v).map (·.1)=if k∈l.map (·.1) then l.map (·.1) else l.map (·.1)++[k]:=by
 unfold setL
 split
 ·rw [List.map_map]
  apply List.map_congr_left
  intro p _
  simp only [Function.comp]
  split <;> simp_all
 ·simp
def set (m:Mp κ ν) (k:κ) (v:ν):Mp κ ν:=⟨setL m.l k v,by
 rw [setL_keys]
 split
 ·exact m.nd
 ·rename_i h
  rw [List.nodup_append]
  exact ⟨m.nd,by simp,by intro a ha b hb;simp at hb;subst hb;intro e;exact h (e ▸ ha)⟩⟩
def len (m:Mp κ ν):Nat:=m.l.length
theorem lookup_of {l:List (κ × ν)} (hn:(l.map (·.1)).Nodup) {i:Nat}{p:κ × ν} (h:l[i]? = some p):l.lookup p.1=some p.2:=by
 induction l generalizing i with
 | nil=>simp at h
 | cons q l ih =>
  simp only [List.map_cons,List.nodup_cons] at hn
  cases i with
  | zero=>simp at h;subst h;simp [List.lookup]
  | succ i =>
   simp at h
   have hm:p.1∈l.map (·.1):=List.mem_map.2 ⟨p,List.mem_of_getElem? h,rfl⟩
   have hne:¬ p.1=q.1:=fun e=>hn.1 (e ▸ hm)
   have e:(p.1 == q.1)=false:=by simpa using hne
   simp only [List.lookup,e]
   exact ih hn.2 h
theorem lookup_none {l:List (κ × ν)}{k:κ} (h:∀ p∈l,p.1≠k):l.lookup k=none:=by
 induction l with
 | nil=>rfl
 | cons p l ih =>
  have e:(k == p.1)=false:=by simpa using fun e=>h p (by simp) e.symm
  obtain ⟨a,b⟩:=p
  simp only [List.lookup,e]
  exact ih fun q hq=>h q (by simp [hq])
end Mp
structure KeyP (P:Program) (kt:TypeId) (ok:Value→Prop):Prop where
 check:∀ (w:World) (em:Bool) (v:Value),ok v→(Instr.checkKey em 10000 kt v).run P w = .ok () w
 find:∀ (w:World) (x:Value),ok x→∀ es:List MapEntry,(∀ e∈es,ok e.key) →
  ((Instr.findKey kt x es).run P w = .ok none w∧∀ e∈es,e.key≠x)∨∃ j e,(Instr.findKey kt x es).run P w = .ok (some (j,e.val)) w∧es[j]? = some e∧e.key=x
 stays:∀ (w:World) (v:Value),ok v→(Instr.keyThatStays v v).run P w = .ok v w
def intKey (v:Value):Prop:=∃ a,v = .int .i64 a
theorem findNow_int {kd : IntKind} {a : Int} : ∀ (es : List MapEntry) (i : Nat), (∀ e ∈ es, intKey e.key) →
    (Instr.findNow (.int kd) (.int .i64 a) es i=some none∧∀ e∈es,e.key≠.int .i64 a)∨∃ j e,Instr.findNow (.int kd) (.int .i64 a) es i=some (some (i+j,e.val))∧es[j]? = some e∧e.key = .int .i64 a:=by
 intro es
 induction es with
 | nil=>intro i _;exact .inl ⟨rfl,by simp⟩
 | cons e es ih =>
  intro i h
  obtain ⟨b,hb⟩:=h e (by simp)
  unfold Instr.findNow
  simp only [hb,Instr.sameNow,if_true]
  by_cases hab:a=b
  ·subst hab
   right
   exact ⟨0,e,by simp,rfl,hb⟩
  ·have:(a == b)=false:=by simpa using hab
   rw [this]
   simp only
   rcases ih (i+1) (fun e he=>h e (by simp [he])) with ⟨h1,h2⟩ | ⟨j,e',h1,h2,h3⟩
   ·left
    refine ⟨h1,?_⟩
    intro e'' he''
    rcases List.mem_cons.1 he'' with rfl | he''
    ·rw [hb];intro e;cases e;exact hab rfl
    ·exact h2 e'' he''
   ·right
    exact ⟨j+1,e',by rw [h1,show i+(j+1)=i+1+j from by omega],by simpa using h2,h3⟩
theorem keyP_int {P:Program}{kt:TypeId}{kd:IntKind} (hk:P.underlying kt=some (.int kd)):KeyP P kt intKey where
 check w em v hv:=by
  obtain ⟨a,rfl⟩:=hv
  unfold Instr.checkKey
  rw [run_bind_ok (run_underlying hk w)]
  rfl
 find w x hx es hes:=by
  obtain ⟨a,rfl⟩:=hx
  unfold Instr.findKey
  rcases findNow_int (kd:=kd) (a:=a) es 0 hes with ⟨h1,h2⟩ | ⟨j,e,h1,h2,h3⟩
  ·left
   refine ⟨?_,h2⟩
   rw [run_bind_ok (run_underlying hk w)]
   simp only [h1]
   rfl
  ·right
   refine ⟨j,e,?_,h2,h3⟩
   rw [run_bind_ok (run_underlying hk w)]
   simp only [h1,Nat.zero_add]
   rfl
 stays w v hv:=by
  obtain ⟨a,rfl⟩:=hv
  unfold Instr.keyThatStays
  simp [Instr.sameBits,pure]
def gnd:AV→Option Value
 | .v x=>some x
 | _=>none
def gnds:List AV→Option (List Value)
 | []=>some []
 | x::xs=>match gnd x,gnds xs with
  | some v,some vs=>some (v::vs)
  | _,_=>none
def ground:AV→Option Value
 | .v x=>some x
 | .agg xs=>(gnds xs).map fun vs=>.agg vs.toArray
 | _=>none
theorem VR.ground_cells {C:Cx}:∀ {xs:List AV}{cs vs:List Value},xs.length=cs.length→(∀ (i:Nat) x,xs[i]? = some x→∀ c,cs[i]? = some c→VR C x [c])→gnds xs=some vs→cs=vs:=by
 intro xs
 induction xs with
 | nil=>intro cs vs h _ hm;simp [gnds] at hm;subst hm;exact List.eq_nil_of_length_eq_zero (by simpa using h.symm)
 | cons x xs ih =>
  intro cs vs h hr hm
  cases cs with
  | nil=>simp at h
  | cons c cs =>
   have h0:=hr 0 x rfl c rfl
   unfold gnds at hm
   split at hm
   ·rename_i v vs' h1 h2
    cases hm
    cases x <;> simp only [gnd,Option.some.injEq,reduceCtorEq] at h1
    subst h1
    cases h0
    rw [ih (cs:=cs) (vs:=vs') (by simpa using h) (fun i x hx c hc=>hr (i+1) x (by simpa using hx) c (by simpa using hc)) h2]
   ·cases hm
theorem vt_ground {C:Cx}{y:AV}{u v:Value} (hg:ground y=some u) (h:VT C y v):v=u:=by
 cases y <;> simp only [ground,Option.map_eq_some_iff,Option.some.injEq,reduceCtorEq] at hg
 ·subst hg;exact vt_v_eq h
 ·obtain ⟨vs,h1,rfl⟩:=hg
  obtain ⟨cs,rfl,hr⟩:=h
  cases hr with
  | agg _ _ h2 h3 h4 h5=>rw [VR.ground_cells h2 h5 h1]
theorem lay_vt {C:Cx}{x:AV}{v:Value}{cs:List Value} (hx:szOf x≠none) (hl:Lay x v cs) (hr:VR C x cs):VT C x v:=by
 cases x <;> simp only [szOf,ne_eq,not_true_eq_false,reduceCtorEq,not_false_eq_true] at hx
 case agg=>exact ⟨cs,hl,hr⟩
 all_goals
  obtain ⟨h1,h2⟩:=hl
  rw [h1] at hr
  exact ⟨h2,hr⟩
theorem vt_lay {C:Cx}{x:AV}{v:Value} (hx:szOf x≠none) (h:VT C x v):∃ cs:List Value,Lay x v cs∧VR C x cs:=by
 cases x <;> simp only [szOf,ne_eq,not_true_eq_false,reduceCtorEq,not_false_eq_true] at hx
 case agg=>obtain ⟨cs,e,hr⟩:=h;exact ⟨cs,e,hr⟩
 all_goals exact ⟨[v],⟨rfl,h.1⟩,h.2⟩
def zo (P:Program) (t:TypeId):Option Value :=
 match P.info? t with
 | some i=>match i.zero with
  | some z=>if one z then some z else none
  | none=>none
 | none=>none
theorem zo_run {P:Program}{t:TypeId}{z:Value} (h:zo P t=some z) (w:World):(zeroValue t).run P w = .ok z w∧one z=true:=by
 unfold zo at h
 split at h
 ·rename_i i hi
  split at h
  ·rename_i z hz
   split at h
   ·rename_i hc
    cases h
    exact ⟨by unfold zeroValue typeInfo;simp [Go.program,bind,Sem.bind,Sem.run,hi,hz,pure],hc⟩
   ·cases h
  ·cases h
 ·cases h
def mt (P:Program) (t:TypeId):Option (TypeId × TypeId):=match P.underlying t with
 | some (.map k e)=>some (k,e)
 | _=>none
theorem mt_of {P:Program}{t k e:TypeId} (h:mt P t=some (k,e)):P.underlying t=some (.map k e):=by
 unfold mt at h
 split at h
 ·cases h;assumption
 ·cases h
section
variable {P : Program}
theorem find_run {C : Cx} {κ ν : Type} [DecidableEq κ] {ek : κ → Value} {ev : ν → AV} {m : Mp κ ν} {kt : TypeId} {ok : Value → Prop} (K : KeyP P kt ok) (hinj : ∀ a b, ek a = ek b → a = b) {es : Array MapEntry}
    (hes:es.size=m.l.length) (hfit:∀ (i:Nat) p,m.l[i]? = some p→∃ e cs,es[i]? = some e∧e.key=ek p.1∧Lay (ev p.2) e.val cs∧VR C (ev p.2) cs) (hok:∀ p∈m.l,ok (ek p.1)) {k:κ} (hk:ok (ek k)) (w:World) :
    ((Instr.findKey kt (ek k) es.toList).run P w = .ok none w∧m.get? k=none∧k ∉ m.l.map (·.1)) ∨
     ∃ j e x cs,(Instr.findKey kt (ek k) es.toList).run P w = .ok (some (j,e.val)) w∧es[j]? = some e∧m.l[j]? = some (k,x)∧m.get? k=some x∧Lay (ev x) e.val cs∧VR C (ev x) cs∧e.key=ek k:=by
 have hkeys:∀ e∈es.toList,∃ p∈m.l,e.key=ek p.1:=by
  intro e he
  obtain ⟨i,hi⟩:=List.mem_iff_getElem?.1 he
  have hlt:=(List.getElem?_eq_some_iff.1 hi).1
  have hp:m.l[i]? = some (m.l[i]'(by simp at hlt;omega)):=List.getElem?_eq_getElem _
  obtain ⟨e',cs,h1,h2,_⟩:=hfit i _ hp
  have h1:es.toList[i]? = some e':=by simpa using h1
  rw [hi] at h1
  cases h1
  exact ⟨_,List.mem_of_getElem? hp,h2⟩
 rcases K.find w (ek k) hk es.toList (fun e he=>by obtain ⟨p,hp,e'⟩:=hkeys e he;rw [e'];exact hok p hp) with ⟨h1,h2⟩ | ⟨j,e,h1,h2,h3⟩
 ·left
  have hno:∀ p∈m.l,p.1≠k:=by
   intro p hp e
   obtain ⟨i,hi⟩:=List.mem_iff_getElem?.1 hp
   obtain ⟨e',cs,k1,k2,_⟩:=hfit i p hi
   exact h2 e' (by have : es.toList[i]? = some e' := by simpa using k1
                   exact List.mem_of_getElem? this) (by rw [k2,e])
  refine ⟨h1,Mp.lookup_none hno,fun hh=>?_⟩
  obtain ⟨p,hp,e⟩:=List.mem_map.1 hh
  exact hno p hp e
 ·right
  have hlt:=(List.getElem?_eq_some_iff.1 h2).1
  have hp:m.l[j]? = some (m.l[j]'(by simp at hlt;omega)):=List.getElem?_eq_getElem _
  obtain ⟨e',cs,k1,k2,k3,k4⟩:=hfit j _ hp
  have h2':es[j]? = some e:=by simpa using h2
  rw [h2'] at k1
  cases k1
  have hkk:(m.l[j]'(by simp at hlt;omega)).1=k:=hinj _ _ (k2.symm.trans h3)
  refine ⟨j,e,_,cs,h1,h2',?_,?_,k3,k4,h3⟩
  ·rw [hp];congr 1;exact Prod.ext hkk rfl
  ·have:=Mp.lookup_of m.nd hp
   rw [hkk] at this
   exact this
theorem getObj_run {w:World}{b:Nat}{es:Array MapEntry}{clock:Nat} (h:w.heap[b]? = some (.map es clock)):(getObj b).run P w = .ok (.map es clock) w:=by
 simp [getObj,Sem.run,h]
def foundV (r:Option (Nat × Value)) (z:Value):Value:=match r with
 | some p=>p.2
 | none=>z
theorem lookup_run {t kt e : TypeId} {ok : Value → Prop} {key : Value} (K : KeyP P kt ok) (ht : mt P t = some (kt, e)) (hk : ok key) {z : Value} {w : World} (hz : (zeroValue e).run P w = .ok z w) {b : Nat} {es : Array MapEntry} {clock : Nat} (hb : w.heap[b]? = some (.map es clock)) {r : Option (Nat × Value)}
    (hf:(Instr.findKey kt key es.toList).run P w = .ok r w) (co:Bool):(Instr.lookup t (.map (some b)) key co).run P w = .ok (if co then .tuple #[foundV r z,.bool r.isSome] else foundV r z) w:=by
 unfold Instr.lookup
 rw [run_bind_ok (run_underlying (mt_of ht) w)]
 simp only
 rw [run_bind_ok (getObj_run hb)]
 simp only
 rw [run_bind_ok (v:=es) (w':=w) rfl]
 rw [run_bind_ok (K.check w _ key hk)]
 rw [run_bind_ok hf]
 cases r with
 | none =>
  simp only
  rw [run_bind_ok hz]
  cases co <;> rfl
 | some p=>cases co <;> rfl
end
section
variable {P : Program} {ops : Array Oper} {n : Nn} {c k : Nat} {rest : List Oper} {T : TL} {H : HL} {fs : List Foot} {K : List Foot → St → Prop}
def encM {κ ν:Type} [DecidableEq κ] (ek:κ→Value) (ev:ν→AV) (m:Mp κ ν):List (Value × AV):=m.l.map fun p=>(ek p.1,ev p.2)
theorem encM_get {κ ν:Type} [DecidableEq κ] {ek:κ→Value}{ev:ν→AV}{m:Mp κ ν}{i:Nat}{p:κ × ν} (h:m.l[i]? = some p):(encM ek ev m)[i]? = some (ek p.1,ev p.2):=by simp [encM,h]
theorem mlen_run {P:Program}{t kt e ty:TypeId} (h:mt P t=some (kt,e)) {b:Nat}{es:Array MapEntry}{clock:Nat}{w:World} (hb:w.heap[b]? = some (.map es clock)) (consts:Array Bool):(builtin .len #[t] ty consts [Value.map (some b)].toArray).run P w = .ok (.value (.int .i64 (es.size:Int))) w:=by
 simp only [builtin]
 rw [run_bind_ok (v:=.int .i64 (es.size:Int)) (w':=w)]
 ·rfl
 ·unfold Builtin.len_
  simp only [List.getElem?_toArray,List.getElem?_cons_zero]
  rw [run_bind_ok (run_underlying (mt_of h) w)]
  simp only
  rw [run_bind_ok (getObj_run hb)]
  rfl
theorem rg_mlen {d ty : Nat} {pos : String} {aft : Array Edge} {gd : Option (Nat × Bool)} {gts ts : List Nat} {t kt e : TypeId} {x : Operand} {s g : Nat} {kv : List (Value × AV)} (hgd : Gd ops T gd gts) (hx : Ev T x (.mp s g) ts) (hh : Hook H s g (.map kv)) (ht : mt P t = some (kt, e)) (hd : d < n.n)
    (next:RG P ops n c (k+1) rest (mk ((d,.v (.int .i64 (kv.length:Int)))::T) H) (⟨gts++ts,[s],[]⟩::fs) K):RG P ops n c k (⟨some d,.call ⟨.builtin .len,#[x],#[t]⟩,ty,pos,aft,gd⟩::rest) (mk T H) fs K :=
 rg_read rfl hd hgd hh (fun C a w L hw hL hr hop _=>by
  obtain ⟨_,h2⟩:=hop x _ ts hx fun _ h=>h
  generalize e1:a.eval x=u at h2
  cases h2 with
  | mp _ _ b hG hb =>
   obtain ⟨b',es,clock,e3,h4,⟨h5,hbn⟩,h6⟩:=hr
   rw [hb L hL] at e3
   cases e3
   rw [hw] at h4
   rw [← h5]
   exact ⟨_,call_run (xs:=[x]) rfl rfl (fun consts=>by simp only [List.map_cons,List.map_nil,e1];exact mlen_run ht h4 consts),vt_v rfl⟩) next
theorem rg_makeMap {d ty s : Nat} {pos : String} {aft : Array Edge} {gd : Option (Nat × Bool)} {gts : List Nat} {t : TypeId} (hgd : Gd ops T gd gts) (hd : d < n.n)
    (next:RG P ops n c (k+1) rest (mk ((d,.mp s (c+k))::T) ((s,some (c+k,.map []))::H)) (⟨gts++[],[],[s]⟩::fs) K):RG P ops n c k (⟨some d,.makeMap t none,ty,pos,aft,gd⟩::rest) (mk T H) fs K:=by
 refine rg_core (r:=⟨(gts++[]).map fun t=>(t,lookT T t),[],.mp s (c+k),c+k,[(s,some (c+k,.map []))]⟩) hgd rfl (by simp) rfl ?_ ?_
 ·intro base w0 F G E st a w Q K' hG hp hs hK
  have hrun:(execOp a.eval ⟨some d,.makeMap t none,ty,pos,aft,gd⟩).run P w = .ok (.value (.map (some w.heap.size))) (w.alloc (.map #[] 0)):=by
   simp only [execOp,Option.map_none,Instr.makeMap]
   rfl
  unfold Oper.wp
  rw [hrun]
  refine hK _ _ (hs.make (s:=s) (o:=.map []) (ks:=[]) (L:=⟨some w.heap.size,0,0⟩) hG rfl (by intro d' e;cases e;exact hd) ((Below.refl _ _).alloc (Nat.zero_le _) _) ?_ ?_ ?_ ?_)
  ·intro b hb
   cases hb
   exact .inl ⟨Nat.le_refl _,by simp⟩
  ·intro b hb _
   exact Below.heap_alloc _ _ _ hb
  ·intro E' hle hE'
   exact ⟨_,#[],0,rfl,heap_alloc_new w _,⟨rfl,rfl,by simp⟩,by simp⟩
  ·intro E' hle hE'
   refine ⟨rfl,.mp _ _ _ (.inr rfl) fun L hL=>?_⟩
   have hL:E' s (c+k)=some L:=hL
   rw [hE'] at hL
   cases hL
   rfl
 ·rw [app_mk,foot_of]
  exact next
theorem setObj_heap {w : World} {b : Nat} {es es' : Array MapEntry} {clock clock' : Nat} (h : w.heap[b]? = some (.map es clock)) :
    ∃ w',(setObj b (.map es' clock')).run P w = .ok () w'∧w'.heap[b]? = some (.map es' clock')∧(∀ b',b'≠b→w'.heap[b']? = w.heap[b']?)∧Below 0 w w':=by
 have hlt:=(Array.getElem?_eq_some_iff.1 h).1
 refine ⟨{ w with heap:=w.heap.setIfInBounds b (.map es' clock') },?_,?_,?_,?_⟩
 ·simp [setObj,Sem.run,h]
 ·simp [hlt]
 ·intro b' hb'
  simp only [Array.getElem?_setIfInBounds]
  rw [if_neg (fun e=>hb' e.symm)]
 ·exact ⟨rfl,rfl,rfl,by simp,fun k hk=>absurd hk (Nat.not_lt_zero _)⟩
theorem Bn_push {es:Array MapEntry}{clock:Nat}{k v:Value} (h:Bn es clock):Bn (es.push { key:=k,val:=v,born:=clock }) (clock+1):=by
 refine ⟨by simp [h.1],fun i e he=>?_⟩
 rw [Array.getElem?_push] at he
 split at he
 ·rename_i hi;cases he;show clock=i;rw [h.1,hi]
 ·exact h.2 i e he
theorem Bn_modify {es:Array MapEntry}{clock j:Nat}{k v:Value} (h:Bn es clock):Bn (es.modify j fun (e:MapEntry)=>{ e with key:=k,val:=v }) clock:=by
 refine ⟨by simp [h.1],fun i e he=>?_⟩
 rw [Array.getElem?_modify] at he
 split at he
 ·obtain ⟨e',h1,rfl⟩:=Option.map_eq_some_iff.1 he
  exact h.2 i e' h1
 ·exact h.2 i e he
theorem rg_mapUpdate {ty : Nat} {dst : Option Nat} {pos : String} {aft : Array Edge} {gd : Option (Nat × Bool)} {gts ts1 ts2 ts3 : List Nat} {t kt e : TypeId} {x1 x2 x3 : Operand} {s g : Nat} {κ ν : Type} [DecidableEq κ] {ek : κ → Value} {ev : ν → AV} {m : Mp κ ν} {q : κ} {v : ν} {yk : AV} {ok : Value → Prop} (KP : KeyP P kt ok) (hinj : ∀ a b, ek a = ek b → a = b) (hgd : Gd ops T gd gts)
    (h1:Ev T x1 (.mp s g) ts1) (h2:Ev T x2 yk ts2) (h3:Ev T x3 (ev v) ts3) (hg:ground yk=some (ek q)) (hh:Hook H s g (.map (encM ek ev m))) (ht:mt P t=some (kt,e)) (hok:∀ p∈m.l,ok (ek p.1)) (hk:ok (ek q)) (hev:szOf (ev v)≠none) (hdst:dst=none)
    (next:RG P ops n c (k+1) rest (mk T ((s,some (g,.map (encM ek ev (m.set q v))))::H)) (⟨gts++(ts1++ts2++ts3),[s],[s]⟩::fs) K):RG P ops n c k (⟨dst,.mapUpdate t x1 x2 x3,ty,pos,aft,gd⟩::rest) (mk T H) fs K:=by
 subst hdst
 refine rg_core (r:=⟨(gts++(ts1++ts2++ts3)).map fun t=>(t,lookT T t),[(s,g,.map (encM ek ev m))],.any,c+k,[(s,some (g,.map (encM ek ev (m.set q v))))]⟩) hgd rfl (by simpa using hh) rfl ?_ ?_
 ·intro base w0 F G E st a w Q K' hG hp hs hK
  have ho:=hp.reads (s,g,.map (encM ek ev m)) (by simp)
  obtain ⟨hgg,L,hL,hr⟩:=hs.live s g _ ho
  have hop:∀ x z ts,Ev T x z ts→(∀ t∈ts,t∈ts1++ts2++ts3)→VT (cx base F E G w) z (a.eval x):=fun x z ts hx hts=>hs.opd hp (opd_of rfl hx hts)
  obtain ⟨_,r1⟩:=hop x1 _ ts1 h1 (by simp +contextual)
  have e2:=vt_ground hg (hop x2 _ ts2 h2 (by simp +contextual))
  obtain ⟨cs3,l3,v3⟩:=vt_lay hev (hop x3 _ ts3 h3 (by simp +contextual))
  generalize e1:a.eval x1=u at r1
  cases r1 with
  | mp _ _ b hG' hb =>
   obtain ⟨b',es,clock,e3,h4,⟨h5,hbn⟩,h6⟩:=hr
   have hbL:=hb L hL
   rw [hbL] at e3
   cases e3
   have h4:w.heap[b]? = some (.map es clock):=h4
   have hsz:es.size=m.l.length:=by simpa [encM] using h5
   have key : ∃ w' es' clock', (Instr.mapUpdate t (.map (some b)) (ek q) (a.eval x3)).run P w = .ok () w' ∧ w'.heap[b]? = some (.map es' clock') ∧ (∀ b', b' ≠ b → w'.heap[b']? = w.heap[b']?) ∧ Below 0 w w' ∧
       (es'.size=(m.set q v).l.length∧Bn es' clock')∧∀ (i:Nat) p,(m.set q v).l[i]? = some p→∃ en cs,es'[i]? = some en∧en.key=ek p.1∧Lay (ev p.2) en.val cs∧VR (cx base F E G w) (ev p.2) cs:=by
    have hrun : ∀ r : Option (Nat × Value), (Instr.findKey kt (ek q) es.toList).run P w = .ok r w → (Instr.mapUpdate t (.map (some b)) (ek q) (a.eval x3)).run P w =
        (match r with
         | some (i,_)=>(do
          let key ← Instr.keyThatStays (((es[i]?).map fun (x:MapEntry)=>x.key).getD (ek q)) (ek q)
          setObj b (.map (es.modify i fun (e:MapEntry)=>{ e with key,val:=a.eval x3 }) clock):Sem Unit)
         | none=>setObj b (.map (es.push { key:=ek q,val:=a.eval x3,born:=clock }) (clock+1))).run P w:=by
     intro r hr
     unfold Instr.mapUpdate
     rw [run_bind_ok (run_underlying (mt_of ht) w)]
     simp only
     rw [run_bind_ok (getObj_run h4)]
     simp only
     rw [run_bind_ok (KP.check w _ _ hk)]
     rw [run_bind_ok hr]
     cases r <;> rfl
    rcases find_run KP hinj (m:=m) (ev:=ev) (C:=cx base F E G w) hsz (fun i p hp=>h6 i _ (encM_get hp)) hok hk w with ⟨f1,f2,f3⟩ | ⟨j,en,x,cs,f1,f2,f3,f4,f5,f6,f7⟩
    ·obtain ⟨w',k1,k2,k3,k4⟩:=setObj_heap (P:=P) (es':=es.push { key:=ek q,val:=a.eval x3,born:=clock }) (clock':=clock+1) h4
     refine ⟨w',_,_,(hrun _ f1).trans k1,k2,k3,k4,⟨?_,Bn_push hbn⟩,fun i p hp=>?_⟩
     ·simp [Mp.set,Mp.setL,f3,hsz]
     ·simp only [Mp.set,Mp.setL,if_neg f3] at hp
      rcases Nat.lt_or_ge i m.l.length with hi | hi
      ·rw [List.getElem?_append_left hi] at hp
       obtain ⟨en,cs,a1,a2,a3,a4⟩:=h6 i _ (encM_get hp)
       refine ⟨en,cs,?_,a2,a3,a4⟩
       rw [Array.getElem?_push,if_neg (by omega)];exact a1
      ·rw [List.getElem?_append_right hi] at hp
       have h0:i - m.l.length=0:=by
        have:=(List.getElem?_eq_some_iff.1 hp).1
        simp at this;omega
       rw [h0] at hp
       simp at hp
       subst hp
       refine ⟨{ key:=ek q,val:=a.eval x3,born:=clock },cs3,?_,rfl,l3,v3⟩
       rw [Array.getElem?_push,if_pos (by omega)]
    ·have hmem:q∈m.l.map (·.1):=List.mem_map.2 ⟨_,List.mem_of_getElem? f3,rfl⟩
     obtain ⟨w',k1,k2,k3,k4⟩:=setObj_heap (P:=P) (es':=es.modify j fun (e:MapEntry)=>{ e with key:=ek q,val:=a.eval x3 }) (clock':=clock) h4
     refine ⟨w',_,_,(hrun _ f1).trans ?_,k2,k3,k4,⟨?_,Bn_modify hbn⟩,fun i p hp=>?_⟩
     ·simp only [f2,Option.map_some,Option.getD_some,f7]
      rw [run_bind_ok (KP.stays w _ hk)]
      exact k1
     ·simp [Mp.set,Mp.setL,hmem,hsz]
     ·simp only [Mp.set,Mp.setL,if_pos hmem,List.getElem?_map,Option.map_eq_some_iff] at hp
      obtain ⟨p0,hp0,rfl⟩:=hp
      obtain ⟨en',cs',a1,a2,a3,a4⟩:=h6 i _ (encM_get hp0)
      by_cases hij:i=j
      ·subst hij
       rw [f3] at hp0
       cases hp0
       simp only [if_true]
       refine ⟨{ en with key:=ek q,val:=a.eval x3 },cs3,by rw [Array.getElem?_modify,if_pos rfl,f2];rfl,rfl,l3,v3⟩
      ·have hne:p0.1≠q:=by
        intro e
        have i1:(m.l.map (·.1))[i]? = some q:=by simp [hp0,e]
        have i2:(m.l.map (·.1))[j]? = some q:=by simp [f3]
        exact hij ((List.getElem?_inj (List.getElem?_eq_some_iff.1 i1).1 m.nd).1 (i1.trans i2.symm))
       simp only [if_neg hne]
       exact ⟨en',cs',by rw [Array.getElem?_modify,if_neg (fun e=>hij e.symm)];exact a1,a2,a3,a4⟩
   obtain ⟨w',es',clock',k1,k2,k3,k4,⟨k5,kb⟩,k6⟩:=key
   have hexec:(execOp a.eval ⟨none,.mapUpdate t x1 x2 x3,ty,pos,aft,gd⟩).run P w = .ok .skip w':=by
    simp only [execOp,e1,e2]
    rw [run_bind_ok k1]
    rfl
   unfold Oper.wp
   rw [hexec]
   refine hK _ _ ⟨E,hs.write (o':=.map (encM ek ev (m.set q v))) ho hL rfl (by simp) k4 (fun b' hb'=>k3 b' (fun e=>hb' (by rw [hbL,e]))) (fun hle=>?_) (fun _=>VT.any _ _)⟩
   refine ⟨b,es',clock',hbL,k2,⟨by simp [encM,k5],kb⟩,fun i p hp=>?_⟩
   simp only [encM,List.getElem?_map,Option.map_eq_some_iff] at hp
   obtain ⟨p0,hp0,rfl⟩:=hp
   obtain ⟨en,cs,a1,a2,a3,a4⟩:=k6 i p0 hp0
   exact ⟨en,cs,a1,a2,a3,a4.mono hle⟩
 ·rw [app_mk0,foot_of]
  exact next
end
end Go.Ar
namespace Go.Ar
open Go.RowKit
def partV (P:Program) (t:TypeId) (cs:Array Value) (off:Nat):Option Value :=
 match tk P t with
 | some (true,m)=>some (.agg ((cs.toList.drop off).take m).toArray)
 | some (false,_)=>cs.toList[off]?
 | none=>none
theorem partV_run {P:Program}{t:TypeId}{cs:Array Value}{off:Nat}{v:Value} (h:partV P t cs off=some v) (w:World):(part t cs off).run P w = .ok v w:=by
 unfold partV at h
 split at h
 ·rename_i m ht
  cases h
  unfold part
  rw [run_bind_ok (tk_parts ht w).1]
  simp only [if_true]
  rw [run_bind_ok (tk_parts ht w).2]
  have:cs.extract off (off+m)=((cs.toList.drop off).take m).toArray:=by
   apply Array.ext'
   simp
  rw [this]
  rfl
 ·rename_i m ht
  unfold part
  rw [run_bind_ok (tk_parts ht w).1]
  have:cs[off]? = some v:=by simpa using h
  simp only [Bool.false_eq_true,if_false,this]
  rfl
 ·cases h
def eqfs (P:Program) (f:TypeId→Value→Value→Option Bool) (xs ys:Array Value):List Field→Option Bool
 | []=>some true
 | x :: fs => if x.name ≠ "_" then
     match partV P x.type xs x.offset,partV P x.type ys x.offset with
     | some a,some b=>match f x.type a b,eqfs P f xs ys fs with
      | some r,some q=>some (r && q)
      | _,_=>none
     | _,_=>none
  else eqfs P f xs ys fs
def eqv (P:Program):Nat→TypeId→Value→Value→Option Bool
 | 0,_,_,_=>none
 | d+1,t,x,y=>match P.underlying t,x,y with
  | some (.int _),.int k a,.int k' b=>if k=k' then some (a == b) else none
  | some .bool,.bool a,.bool b=>some (a == b)
  | some (.struct fs),.agg xs,.agg ys=>if P.stoodInHeld t then none else eqfs P (eqv P d) xs ys fs.toList
  | _,_,_=>none
theorem eqfs_run {P:Program}{f:TypeId→Value→Value→Option Bool}{d:Nat} (hf:∀ t x y b,f t x y=some b→∀ w,(Op.equalIn d t x y).run P w = .ok b w) {xs ys:Array Value}:∀ (fs:List Field) (b:Bool),eqfs P f xs ys fs=some b→∀ w,(Op.eqFields d xs ys fs).run P w = .ok b w:=by
 intro fs
 induction fs with
 | nil=>intro b h w;simp [eqfs] at h;subst h;rfl
 | cons x fs ih =>
  intro b h w
  unfold eqfs at h
  unfold Op.eqFields
  split at h
  ·rename_i hn
   rw [if_pos hn]
   split at h
   ·rename_i u v hu hv
    split at h
    ·rename_i r q hr hq
     cases h
     rw [run_bind_ok (partV_run hu w),run_bind_ok (partV_run hv w),run_bind_ok (hf _ _ _ _ hr w)]
     cases r
     ·rfl
     ·simpa using ih q hq w
    ·cases h
   ·cases h
  ·rename_i hn
   rw [if_neg hn]
   exact ih b h w
theorem eqv_run {P:Program}:∀ (d:Nat) (t:TypeId) (x y:Value) (b:Bool),eqv P d t x y=some b→∀ (e:Nat),d≤e→∀ w,(Op.equalIn e t x y).run P w = .ok b w:=by
 intro d
 induction d with
 | zero=>intro t x y b h;cases h
 | succ d ih =>
  intro t x y b h e he w
  obtain ⟨e,rfl⟩:∃ e',e=e'+1:=⟨e - 1,by omega⟩
  unfold eqv at h
  split at h
  ·rename_i ht
   split at h
   ·rename_i hk;subst hk;cases h;exact run_equalIn_int w e t _ _ _ _ ht
   ·cases h
  ·rename_i ht
   cases h;exact run_equalIn_bool w e t _ _ ht
  ·rename_i fs xs ys ht
   split at h
   ·cases h
   ·rename_i hp
    have hfo:P.fieldsOf t=fs:=by simp [Program.fieldsOf,ht]
    rw [run_equalIn_struct w e t xs ys (by rw [hfo];exact ht) (by simpa using hp),hfo]
    exact eqfs_run (fun t x y b h w=>ih t x y b h e (by omega) w) _ b h w
  ·cases h
section
variable {P : Program} {ops : Array Oper} {n : Nn} {c k : Nat} {rest : List Oper} {T : TL} {H : HL} {fs : List Foot} {K : List Foot → St → Prop}
theorem rg_eqA {d ty : Nat} {pos : String} {aft : Array Edge} {gd : Option (Nat × Bool)} {gts ts1 ts2 : List Nat} {t t' : TypeId} {x1 x2 : Operand} {y1 y2 : AV} {cs ds : Array Value} {b : Bool} (hgd : Gd ops T gd gts) (h1 : Ev T x1 y1 ts1) (h2 : Ev T x2 y2 ts2)
    (hg1:ground y1=some (.agg cs)) (hg2:ground y2=some (.agg ds)) (hm:P.eqGuardType P.depth t=false) (hv:eqv P 9 t (.agg cs) (.agg ds)=some b) (hd:d < n.n)
    (next:RG P ops n c (k+1) rest (mk ((d,.v (.bool b))::T) H) (⟨gts++(ts1++ts2),[],[]⟩::fs) K):RG P ops n c k (⟨some d,.binOp .eql t x1 x2 t',ty,pos,aft,gd⟩::rest) (mk T H) fs K :=
 rg_val rfl hd hgd (fun C a w _ hop _=>by
  have e1:=vt_ground hg1 (hop x1 _ ts1 h1 (by simp +contextual))
  have e2:=vt_ground hg2 (hop x2 _ ts2 h2 (by simp +contextual))
  refine ⟨.bool b,?_,vt_v rfl⟩
  simp only [execOp,e1,e2]
  rw [run_bind_ok (v:=.bool b) (w':=w)]
  ·rfl
  ·rw [run_bind_ok (run_eqGuard_agg w .eql t x1 x2 cs ds hm),run_eql_struct,eqv_run 9 t _ _ b hv 10000 (by omega) w]
   rfl) next
theorem rg_neA {d ty : Nat} {pos : String} {aft : Array Edge} {gd : Option (Nat × Bool)} {gts ts1 ts2 : List Nat} {t t' : TypeId} {x1 x2 : Operand} {y1 y2 : AV} {cs ds : Array Value} {b : Bool} (hgd : Gd ops T gd gts) (h1 : Ev T x1 y1 ts1) (h2 : Ev T x2 y2 ts2)
    (hg1:ground y1=some (.agg cs)) (hg2:ground y2=some (.agg ds)) (hm:P.eqGuardType P.depth t=false) (hv:eqv P 9 t (.agg cs) (.agg ds)=some b) (hd:d < n.n)
    (next:RG P ops n c (k+1) rest (mk ((d,.v (.bool (!b)))::T) H) (⟨gts++(ts1++ts2),[],[]⟩::fs) K):RG P ops n c k (⟨some d,.binOp .neq t x1 x2 t',ty,pos,aft,gd⟩::rest) (mk T H) fs K :=
 rg_val rfl hd hgd (fun C a w _ hop _=>by
  have e1:=vt_ground hg1 (hop x1 _ ts1 h1 (by simp +contextual))
  have e2:=vt_ground hg2 (hop x2 _ ts2 h2 (by simp +contextual))
  refine ⟨.bool (!b),?_,vt_v rfl⟩
  simp only [execOp,e1,e2]
  rw [run_bind_ok (v:=.bool (!b)) (w':=w)]
  ·rfl
  ·rw [run_bind_ok (run_eqGuard_agg w .neq t x1 x2 cs ds hm),run_neq_struct,eqv_run 9 t _ _ b hv 10000 (by omega) w]
   rfl) next
theorem rg_min {d ty : Nat} {pos : String} {aft : Array Edge} {gd : Option (Nat × Bool)} {gts ts1 ts2 : List Nat} {at_ : Array TypeId} {x1 x2 : Operand} {k1 k2 : IntKind} {p q : Int} (hgd : Gd ops T gd gts) (h1 : Ev T x1 (.v (.int k1 p)) ts1) (h2 : Ev T x2 (.v (.int k2 q)) ts2) (hd : d < n.n)
    (next:RG P ops n c (k+1) rest (mk ((d,.v (.int k1 (if q < p then q else p)))::T) H) (⟨gts++(ts1++ts2),[],[]⟩::fs) K):RG P ops n c k (⟨some d,.call ⟨.builtin .min,#[x1,x2],at_⟩,ty,pos,aft,gd⟩::rest) (mk T H) fs K :=
 rg_val rfl hd hgd (fun C a w _ hop _=>by
  have e1:=vt_v_eq (hop x1 _ ts1 h1 (by simp +contextual))
  have e2:=vt_v_eq (hop x2 _ ts2 h2 (by simp +contextual))
  refine ⟨_,call_run (xs:=[x1,x2]) (v:=.int k1 (if q < p then q else p)) rfl rfl (fun consts=>?_),vt_v rfl⟩
  simp only [List.map_cons,List.map_nil,e1,e2]
  rfl) next
theorem rg_max {d ty : Nat} {pos : String} {aft : Array Edge} {gd : Option (Nat × Bool)} {gts ts1 ts2 : List Nat} {at_ : Array TypeId} {x1 x2 : Operand} {k1 k2 : IntKind} {p q : Int} (hgd : Gd ops T gd gts) (h1 : Ev T x1 (.v (.int k1 p)) ts1) (h2 : Ev T x2 (.v (.int k2 q)) ts2) (hd : d < n.n)
    (next:RG P ops n c (k+1) rest (mk ((d,.v (.int k1 (if q > p then q else p)))::T) H) (⟨gts++(ts1++ts2),[],[]⟩::fs) K):RG P ops n c k (⟨some d,.call ⟨.builtin .max,#[x1,x2],at_⟩,ty,pos,aft,gd⟩::rest) (mk T H) fs K :=
 rg_val rfl hd hgd (fun C a w _ hop _=>by
  have e1:=vt_v_eq (hop x1 _ ts1 h1 (by simp +contextual))
  have e2:=vt_v_eq (hop x2 _ ts2 h2 (by simp +contextual))
  refine ⟨_,call_run (xs:=[x1,x2]) (v:=.int k1 (if q > p then q else p)) rfl rfl (fun consts=>?_),vt_v rfl⟩
  simp only [List.map_cons,List.map_nil,e1,e2]
  rfl) next
end
section
variable {X : Run} {cl : Nat} {T : TL} {H : HL} {Φ : Act → World → Prop}
theorem eval_put {a:Act}{t:Nat}{v:Value} (h:a.eval (.tmp t)=v):a.put (some t) v=a:=by
 unfold Act.put
 cases a with
 | mk tmps defers =>
  simp only [Act.mk.injEq,and_true]
  apply Array.ext_getElem?
  intro i
  rw [Array.getElem?_setIfInBounds]
  split
  ·rename_i e
   subst e
   split
   ·rename_i hlt
    simp only [Act.eval,Array.getD_eq_getD_getElem?] at h
    rw [Array.getElem?_eq_getElem hlt] at h ⊢
    simpa using h.symm
   ·rename_i hlt
    rw [Array.getElem?_eq_none (by omega)]
  ·rfl
theorem at_nil {t s sz:Nat} (hl:Look T t (.v (.slice none 0 0))) (h:At X (cl+1) (mk ((t,.own s cl sz 0 0 true)::T) ((s,some (cl,.buf sz []))::H)) Φ):At X cl (mk T H) Φ:=by
 rintro a w ⟨E,hs⟩
 have h1:=hs.tmps t
 have h2:(mk T H).T t = .v (.slice none 0 0):=hl.eq
 rw [h2] at h1
 have h3:=vt_v_eq h1
 have ht:t < X.n.n:=by
  refine Nat.lt_of_not_le fun hle=>?_
  have:a.eval (.tmp t)=undef:=by
   simp only [Act.eval,Array.getD_eq_getD_getElem?]
   rw [Array.getElem?_eq_none (by rw [hs.size];exact hle)]
   rfl
  rw [this] at h3
  simp [undef] at h3
 have:=hs.make (dst:=some t) (v:=.slice none 0 0) (w':=w) (r:=⟨[],[],.own s cl sz 0 0 true,cl,[(s,some (cl,.buf sz []))]⟩) (s:=s) (o:=.buf sz []) (ks:=[]) (L:=⟨none,sz,0⟩) (Nat.lt_irrefl cl) rfl (by intro d e;cases e;exact ht) (Below.refl _ _)
  (by intro b hb;cases hb) (fun _ _ _=>rfl) (fun E' _ _=>⟨rfl,rfl⟩) (fun E' _ _=>⟨rfl,.own _ _ _ _ _ _ none 0 (.inr rfl) (by simp) (by simp) (by simp)⟩)
 rw [app_mk,eval_put h3] at this
 obtain ⟨E',h4⟩:=this
 exact h a w ⟨E',h4.more fun g hg=>by
  show g < cl+1
  rcases hg with hg | hg
  ·exact Nat.lt_succ_of_lt hg
  ·have hg:g=cl:=hg
   omega⟩
theorem at_set {t:Nat}{x y:AV} (hl:Look T t x) (hw:∀ C v,VT C x v→VT C y v) (h:At X cl (mk ((t,y)::T) H) Φ):At X cl (mk T H) Φ:=by
 rintro a w ⟨E,hs⟩
 refine h a w ⟨E,{ hs with tmps:=fun u=>?_,dead:=hs.dead,live:=hs.live }⟩
 by_cases e:u=t
 ·subst e
  have h1:=hs.tmps u
  have h2:(mk T H).T u=x:=hl.eq
  rw [h2] at h1
  have:(mk ((u,y)::T) H).T u=y:=by simp [mk,lookT]
  rw [this]
  exact hw _ _ h1
 ·have:(mk ((t,y)::T) H).T u=(mk T H).T u:=by
   have e':(u == t)=false:=by simpa using e
   simp [mk,lookT,List.lookup,e']
  rw [this]
  exact hs.tmps u
theorem unclip {s g sz off len:Nat}{b:Bool}:∀ C v,VT C (.own s g sz off len b) v→VT C (.own s g sz off len false) v:=by
 intro C v h
 obtain ⟨h1,h2⟩:=h
 refine ⟨h1,?_⟩
 cases h2 with
 | own _ _ _ _ _ _ A c hg g1 g2 g3=>exact .own _ _ _ _ _ _ A c hg g1 (by simp) g3
theorem at_freeze (Z : List (Nat × Nat × Ob)) (ps : List (Nat × AV × AV)) (hZ : ∀ z ∈ Z, Hook H z.1 z.2.1 z.2.2) (hp : ∀ p ∈ ps, Look T p.1 p.2.1 ∧ RnT [] Z p.2.1 p.2.2)
    (h:At X cl (mk (ps.map (fun p=>(p.1,p.2.2))++T) (Z.map (fun z=>(z.1,none))++H)) Φ):At X cl (mk T H) Φ:=by
 rintro a w ⟨E,hs⟩
 let zs:=Z.map (·.1)
 let E':Nat→Nat→Option Loc:=fun s g=>if s∈zs then none else E s g
 have hE':∀ s g L,E' s g=some L→s ∉ zs∧E s g=some L:=by
  intro s g L hh
  simp only [E'] at hh
  split at hh
  ·cases hh
  ·exact ⟨‹_›,hh⟩
 have hlk:∀ s,lookH (Z.map (fun z=>(z.1,none))++H) s=if s∈zs then none else lookH H s:=by
  intro s
  unfold lookH
  rw [List.lookup_append]
  by_cases e:s∈zs
  ·rw [if_pos e]
   have:(Z.map (fun z=>(z.1,none)):HL).lookup s=some none:=by
    have:=lookup_kill (ks:=zs) e
    simpa [zs,List.map_map,Function.comp_def] using this
   rw [this];rfl
  ·rw [if_neg e]
   have:(Z.map (fun z=>(z.1,none)):HL).lookup s=none:=lookup_none_of (by simpa [zs] using e)
   rw [this];simp
 have hobj:∀ (T':TL) s g,(mk T' (Z.map (fun z=>(z.1,none))++H)).obj s g=if s∈zs then none else (mk T H).obj s g:=by
  intro T' s g
  unfold St.obj mk
  simp only [hlk]
  split
  ·rename_i h1;split at h1
   ·cases h1
   ·rename_i e;rw [if_neg e,h1]
  ·rename_i h1;split at h1
   ·rename_i e;rw [if_pos e]
   ·rename_i e;rw [if_neg e,h1]
 have hle:(cx X.base X.F E (· < cl) w).Le (cx X.base X.F E' (· < cl) w):=by
  refine ⟨fun s g L _ hh=>(hE' s g L hh).2,fun _ hh=>hh,fun nw b hB=>⟨⟨hB.1,?_,hB.2.2⟩,rfl⟩⟩
  rintro ⟨s,g,L,e1,e2⟩
  exact hB.2.1 ⟨s,g,L,(hE' s g L e1).2,e2⟩
 have hrn:Cx.Rn [] Z (cx X.base X.F E (· < cl) w) (cx X.base X.F E' (· < cl) w):=by
  refine ⟨by simp,by simp,fun b hb=>(hle.B _ _ hb).1,rfl,fun z hz=>?_⟩
  obtain ⟨_,L,hL,hob⟩:=hs.live _ _ _ ((hZ z hz).obj (T:=T))
  refine ⟨L,hL,hob,fun b hb=>?_⟩
  have hf:=hs.far _ _ _ _ hL hb
  refine ⟨hf.2,?_,?_⟩
  ·rintro ⟨s,g,L',e1,e2⟩
   obtain ⟨k1,k2⟩:=hE' s g L' e1
   have:=hs.inj _ _ _ _ _ _ b hL k2 hb e2
   exact k1 (List.mem_map.2 ⟨z,hz,this.1⟩)
  ·rcases hf.1 with k | k
   ·exact .inl k
   ·exact .inr (.inl k)
 refine h a w ⟨E',hs.defers,hs.size,hs.glob,hs.below,hs.keep,hs.old,hs.bsz,?_,?_,?_,?_,hs.g0,fun s L hh=>hs.init s L (hE' _ _ _ hh).2,?_⟩
 ·intro s g hh
  rw [hobj] at hh
  simp only [E']
  split
  ·rfl
  ·rename_i e;rw [if_neg e] at hh;exact hs.dead s g hh
 ·intro s g o hh
  rw [hobj] at hh
  split at hh
  ·cases hh
  ·rename_i e
   obtain ⟨hg,L,hL,hr⟩:=hs.live s g o hh
   exact ⟨hg,L,by simp only [E',if_neg e];exact hL,hr.mono hle fun _ _=>rfl⟩
 ·intro s g L b e1 e2;exact hs.far s g L b (hE' _ _ _ e1).2 e2
 ·intro s g s' g' L L' b e1 e2 e3 e4;exact hs.inj s g s' g' L L' b (hE' _ _ _ e1).2 (hE' _ _ _ e2).2 e3 e4
 ·intro t
  have hT:(mk (ps.map (fun p=>(p.1,p.2.2))++T) (Z.map (fun z=>(z.1,none))++H)).T t=lookT T t∨∃ p∈ps,p.1=t∧(mk (ps.map (fun p=>(p.1,p.2.2))++T) (Z.map (fun z=>(z.1,none))++H)).T t=p.2.2:=by
   clear hp h
   show lookT _ t=_∨∃ p∈ps,p.1=t∧lookT _ t=_
   induction ps with
   | nil=>exact .inl rfl
   | cons p ps ih =>
    by_cases e:t=p.1
    ·right
     refine ⟨p,by simp,e.symm,?_⟩
     subst e
     simp [lookT]
    ·have e':(t == p.1)=false:=by simpa using e
     have:lookT (((p::ps).map fun p=>(p.1,p.2.2))++T) t=lookT ((ps.map fun p=>(p.1,p.2.2))++T) t:=by
      simp [lookT,List.lookup,e']
     rw [this]
     rcases ih with h | ⟨q,hq,h1,h2⟩
     ·exact .inl h
     ·exact .inr ⟨q,by simp [hq],h1,h2⟩
  rcases hT with e | ⟨p,hp',e1,e2⟩
  ·rw [e];exact (hs.tmps t).mono hle
  ·rw [e2]
   obtain ⟨k1,k2⟩:=hp p hp'
   have:=hs.tmps t
   have k3:(mk T H).T t=p.2.1:=by rw [← e1];exact k1.eq
   rw [k3] at this
   exact k2.vt hrn this
end
end Go.Ar
namespace Go.Ar
open Go.RowKit
theorem look_of {T:TL}{t:Nat}{x:AV} (h:T.lookup t=some x):Look T t x:=by
 induction T with
 | nil=>cases h
 | cons p T ih =>
  obtain ⟨u,y⟩:=p
  simp only [List.lookup] at h
  split at h
  ·rename_i e
   have:t=u:=by simpa using e
   cases h;subst this
   exact .here _ _ _
  ·rename_i e
   exact .there _ _ _ _ _ (by simpa using e) (ih h)
theorem hook_of {H:HL}{s g:Nat}{o:Ob} (h:H.lookup s=some (some (g,o))):Hook H s g o:=by
 induction H with
 | nil=>cases h
 | cons p H ih =>
  obtain ⟨u,y⟩:=p
  simp only [List.lookup] at h
  split at h
  ·rename_i e
   have:s=u:=by simpa using e
   cases h;subst this
   exact .here _ _ _ _
  ·rename_i e
   exact .there _ _ _ _ _ _ (by simpa using e) (ih h)
def evOp (T:TL):Operand→Option (AV × List Nat)
 | .tmp t=>match T.lookup t with
  | some x=>some (x,[t])
  | none=>none
 | .const v=>if one v then some (.v v,[]) else none
 | .func f=>some (.fn (.func f) [] [],[])
 | .global _=>some (.any,[])
theorem ev_of {T:TL}{x:Operand}{y:AV}{ts:List Nat} (h:evOp T x=some (y,ts)):Ev T x y ts:=by
 unfold evOp at h
 split at h
 ·split at h
  ·rename_i e;cases h;exact .tmp _ _ (look_of e)
  ·cases h
 ·split at h
  ·rename_i e;cases h;exact .const _ e
  ·cases h
 ·cases h;exact .func _
 ·cases h;exact .global _
theorem rg_done {P:Program}{ops:Array Oper}{n:Nn}{c k:Nat}{st:St}{fs:List Foot}{K:List Foot→St→Prop} (h:K fs.reverse st):RG P ops n c k [] st fs K:=fun _=>h
theorem lt_ok {a b:Nat} (h:Nat.blt a b=true):a < b:=Nat.lt_of_lt_of_le (Nat.lt_succ_self a) (Nat.le_of_ble_eq_true h)
theorem le_ok {a b:Nat} (h:Nat.ble a b=true):a≤b:=Nat.le_of_ble_eq_true h
section
variable {P : Program} {X : Run} {cl : Nat} {st : St} {Q : Exit → Act → World → Prop}
theorem at_region0 {id:Nat}{ops:Array Oper} (h:RG P ops X.n cl 0 ops.toList st [] fun _ st'=>At X (cl+ops.size) st' (Q .normal)):At X cl st ((Code.region id ops false).wp P Q) :=
 at_region (fun h=>nomatch h) fun hd=>Reg.mono (fun _ _ hh=>⟨(fun h=>nomatch h),hh⟩) (h hd)
theorem at_regiond (hm:P.follows .mixedOrders=true) {id:Nat}{ops:Array Oper} (h:RG P ops X.n cl 0 ops.toList st [] fun fs st'=>okDraw ops.toList fs=true∧At X (cl+ops.size) st' (Q .normal)):At X cl st ((Code.region id ops true).wp P Q) :=
 at_region (fun _=>hm) fun hd=>Reg.mono (fun _ _ hh=>⟨fun _=>hh.1,hh.2⟩) (h hd)
theorem at_reg {id:Nat}{ops:Array Oper}{y:Code} (h:RG P ops X.n cl 0 ops.toList st [] fun _ st'=>At X (cl+ops.size) st' (y.wp P Q)):At X cl st ((Code.seq (.region id ops false) y).wp P Q):=at_seq (at_region0 h)
theorem at_regd (hm:P.follows .mixedOrders=true) {id:Nat}{ops:Array Oper}{y:Code} (h:RG P ops X.n cl 0 ops.toList st [] fun fs st'=>okDraw ops.toList fs=true∧At X (cl+ops.size) st' (y.wp P Q)):At X cl st ((Code.seq (.region id ops true) y).wp P Q):=at_seq (at_regiond hm h)
end
section
variable {P : Program} {fn : Func} {X : Run} {cl : Nat} {T : TL} {H : HL}
theorem out1 {r:Nat}{x y:AV}{e:Exit} (hr:fn.results = #[.tmp r]) (he:e = .ret∨e = .normal) (hl:Look T r x) (hxy:x=y) (hp:Pu y):At X cl (mk T H) (Out P fn X [] [] y e):=by
 subst hxy
 exact at_out1 hr hl (.nil _) (fun _ h=>absurd h List.not_mem_nil) (.one _ _ (.pu _ hp)) e he
end
section
variable {X : Run} {cl : Nat} {st : St} {f : Act → World → Prop} {Q : Exit → Act → World → Prop}
theorem at_te {id:Nat} (h:At X cl st (Q (.exit id))):At X cl st (Exit.then f Q (.exit id)):=h
theorem at_bn {id:Nat} (h:At X cl st (Q .normal)):At X cl st (Exit.inBlock id Q .normal):=h
end
end Go.Ar
namespace Go.Ar
open Go.RowKit
def gdOp (ops:Array Oper) (T:TL):Option (Nat × Bool)→Option (List Nat)
 | none=>some []
 | some (j,b)=>match dstOf ops j with
  | some d=>match T.lookup d with
   | some (.v (.bool c))=>if c=b then some [d] else none
   | _=>none
  | none=>none
theorem gd_of {ops:Array Oper}{T:TL}{gd:Option (Nat × Bool)}{gts:List Nat} (h:gdOp ops T gd=some gts):Gd ops T gd gts:=by
 unfold gdOp at h
 split at h
 ·cases h;exact .none
 ·rename_i j b
  split at h
  ·rename_i d hd
   split at h
   ·rename_i c hc
    split at h
    ·rename_i e;subst e;cases h;exact .some j c d hd (look_of hc)
    ·cases h
   ·cases h
  ·cases h
def evOps (T:TL):List Operand→Option (List AV × List Nat)
 | []=>some ([],[])
 | x::xs=>match evOp T x,evOps T xs with
  | some (y,ts),some (ys,us)=>some (y::ys,ts++us)
  | _,_=>none
theorem evL_of {T:TL}:∀ {xs:List Operand}{ys:List AV}{ts:List Nat},evOps T xs=some (ys,ts)→EvL T xs ys ts:=by
 intro xs
 induction xs with
 | nil=>intro ys ts h;cases h;exact .nil
 | cons x xs ih =>
  intro ys ts h
  unfold evOps at h
  split at h
  ·rename_i h1 h2;cases h;exact .cons _ _ _ _ _ _ (ev_of h1) (ih h2)
  ·cases h
def evPs (T:TL):List (Nat × Operand)→Option (List (Nat × AV) × List Nat)
 | []=>some ([],[])
 | x::xs=>match evOp T x.2,evPs T xs with
  | some (y,ts),some (ys,us)=>some ((x.1,y)::ys,ts++us)
  | _,_=>none
theorem evPs_of {T:TL}:∀ {xs:List (Nat × Operand)}{ys:List (Nat × AV)}{ts:List Nat},evPs T xs=some (ys,ts)→Evs T xs ys ts:=by
 intro xs
 induction xs with
 | nil=>intro ys ts h;cases h;exact .nil
 | cons x xs ih =>
  intro ys ts h
  unfold evPs at h
  split at h
  ·rename_i h1 h2;cases h;exact .cons _ _ _ _ _ _ _ (ev_of h1) (ih h2)
  ·cases h
section
variable {P : Program} {X : Run} {cl : Nat} {st : St} {Q : Exit → Act → World → Prop}
theorem reg1 (m:Nat) {id:Nat}{ops:Array Oper} (hm:ops.size=m) (h:RG P ops X.n cl 0 ops.toList st [] fun _ st'=>At X (cl+m) st' (Q .normal)):At X cl st ((Code.region id ops false).wp P Q):=by subst hm;exact at_region0 h
theorem reg (m:Nat) {id:Nat}{ops:Array Oper}{y:Code} (hm:ops.size=m) (h:RG P ops X.n cl 0 ops.toList st [] fun _ st'=>At X (cl+m) st' (y.wp P Q)):At X cl st ((Code.seq (.region id ops false) y).wp P Q):=by subst hm;exact at_reg h
theorem regd1 (hx:P.follows .mixedOrders=true) (m:Nat) {id:Nat}{ops:Array Oper} (hm:ops.size=m) (h:RG P ops X.n cl 0 ops.toList st [] fun fs st'=>okDraw ops.toList fs=true∧At X (cl+m) st' (Q .normal)):At X cl st ((Code.region id ops true).wp P Q):=by subst hm;exact at_regiond hx h
theorem regd (hx:P.follows .mixedOrders=true) (m:Nat) {id:Nat}{ops:Array Oper}{y:Code} (hm:ops.size=m) (h:RG P ops X.n cl 0 ops.toList st [] fun fs st'=>okDraw ops.toList fs=true∧At X (cl+m) st' (y.wp P Q)):At X cl st ((Code.seq (.region id ops true) y).wp P Q):=by subst hm;exact at_regd hx h
end
theorem mk_T_eq {T:TL}{H:HL}{t:Nat}{x y:AV} (h:T.lookup t=some x) (hxy:x=y):mk ((t,y)::T) H=mk T H:=by
 subst hxy
 unfold mk
 rw [lookT_cons]
 congr 1
 funext u
 unfold upd
 split
 ·rename_i e;subst e;simp [lookT,h]
 ·rfl
theorem mk_H_eq {T:TL}{H:HL}{s g:Nat}{o o':Ob} (h:H.lookup s=some (some (g,o))) (ho:o=o'):mk T ((s,some (g,o'))::H)=mk T H:=by
 subst ho
 unfold mk
 congr 1
 funext u
 unfold lookH
 by_cases e:u=s
 ·subst e;simp [h]
 ·have:(u == s)=false:=by simpa using e
  simp [List.lookup,this]
section
variable {P : Program} {ops : Array Oper} {n : Nn} {c k : Nat} {rest : List Oper} {T : TL} {H : HL} {fs : List Foot} {K : List Foot → St → Prop}
theorem teq (t:Nat) {x y:AV} (h:T.lookup t=some x) (hxy:x=y) (next:RG P ops n c k rest (mk ((t,y)::T) H) fs K):RG P ops n c k rest (mk T H) fs K:=by rw [← mk_T_eq h hxy];exact next
theorem cas (t:Nat) {b:Bool} (h:T.lookup t=some (.v (.bool b))) (ht:b=true→RG P ops n c k rest (mk ((t,.v (.bool true))::T) H) fs K) (hf:b=false→RG P ops n c k rest (mk ((t,.v (.bool false))::T) H) fs K):RG P ops n c k rest (mk T H) fs K:=by
 cases hb:b with
 | true=>exact teq t h (by rw [hb]) (ht hb)
 | false=>exact teq t h (by rw [hb]) (hf hb)
variable {d ty : Nat} {pos : String} {aft : Array Edge} {gd : Option (Nat × Bool)} {gts ts ts0 ts1 ts2 ts3 : List Nat} {x x1 x2 x3 : Operand} {y y1 y2 : AV}
theorem dn {st0:St} (h:K fs.reverse st0):RG P ops n c k [] st0 fs K:=rg_done h
theorem mv (hg : gdOp ops T gd = some gts) (hx : evOp T x = some (y, ts)) (hd : Nat.blt d n.n = true) (next : RG P ops n c (k + 1) rest (mk ((d, y) :: T) H) (⟨gts ++ ts, [], []⟩ :: fs) K) :
    RG P ops n c k (⟨some d,.move x,ty,pos,aft,gd⟩::rest) (mk T H) fs K:=rg_move (gd_of hg) (ev_of hx) (lt_ok hd) next
theorem asg (hg : gdOp ops T gd = some gts) (hx : evOp T x = some (y, ts)) (hd : Nat.blt d n.n = true) (next : RG P ops n c (k + 1) rest (mk ((d, y) :: T) H) (⟨gts ++ ts, [], []⟩ :: fs) K) :
    RG P ops n c k (⟨some d,.assign x,ty,pos,aft,gd⟩::rest) (mk T H) fs K:=rg_assign (gd_of hg) (ev_of hx) (lt_ok hd) next
theorem bn {op : BinOp} {t t' : TypeId} {k1 k2 : IntKind} {p q : Int} {v : Value} (hg : gdOp ops T gd = some gts) (h1 : evOp T x1 = some (.v (.int k1 p), ts1)) (h2 : evOp T x2 = some (.v (.int k2 q), ts2)) (hv : binVal op k1 k2 p q = some v) (hd : Nat.blt d n.n = true)
    (next:RG P ops n c (k+1) rest (mk ((d,.v v)::T) H) (⟨gts++(ts1++ts2),[],[]⟩::fs) K):RG P ops n c k (⟨some d,.binOp op t x1 x2 t',ty,pos,aft,gd⟩::rest) (mk T H) fs K:=rg_bin (gd_of hg) (ev_of h1) (ev_of h2) hv (lt_ok hd) next
theorem bn2 {op : BinOp} {t t' : TypeId} {k1 k2 : IntKind} {p q : Int} {v : Value} (hg : gdOp ops T gd = some gts) (h1 : evOp T x1 = some (.v (.int k1 p), ts1)) (h2 : evOp T x2 = some (.v (.int k2 q), ts2)) (hv : binVal2 op k1 k2 p q = some v) (hd : Nat.blt d n.n = true)
    (next:RG P ops n c (k+1) rest (mk ((d,.v v)::T) H) (⟨gts++(ts1++ts2),[],[]⟩::fs) K):RG P ops n c k (⟨some d,.binOp op t x1 x2 t',ty,pos,aft,gd⟩::rest) (mk T H) fs K:=rg_bin2 (gd_of hg) (ev_of h1) (ev_of h2) hv (lt_ok hd) next
theorem nt {t : TypeId} {b : Bool} (hg : gdOp ops T gd = some gts) (hx : evOp T x = some (.v (.bool b), ts)) (hd : Nat.blt d n.n = true) (next : RG P ops n c (k + 1) rest (mk ((d, .v (.bool (!b))) :: T) H) (⟨gts ++ ts, [], []⟩ :: fs) K) :
    RG P ops n c k (⟨some d,.unOp .not t x,ty,pos,aft,gd⟩::rest) (mk T H) fs K:=rg_not (gd_of hg) (ev_of hx) (lt_ok hd) next
theorem ext {i : Nat} {xs : List AV} (hg : gdOp ops T gd = some gts) (hx : evOp T x = some (.tup xs, ts)) (hy : xs[i]? = some y) (hd : Nat.blt d n.n = true) (next : RG P ops n c (k + 1) rest (mk ((d, y) :: T) H) (⟨gts ++ ts, [], []⟩ :: fs) K) :
    RG P ops n c k (⟨some d,.extract x i,ty,pos,aft,gd⟩::rest) (mk T H) fs K:=rg_extract (gd_of hg) (ev_of hx) hy (lt_ok hd) next
theorem ld {t : TypeId} {s g i off sz m : Nat} {ag : Bool} {xs : List AV} {e : AV} (ht : tk P t = some (ag, m)) (hg : gdOp ops T gd = some gts) (hx : evOp T x = some (.ptr s g i off, ts)) (hh : H.lookup s = some (some (g, .buf sz xs))) (he : xs[i]? = some e) (hy : partOf e ag m off = some y) (hd : Nat.blt d n.n = true)
    (next:RG P ops n c (k+1) rest (mk ((d,y)::T) H) (⟨gts++ts,[s],[]⟩::fs) K):RG P ops n c k (⟨some d,.load t x,ty,pos,aft,gd⟩::rest) (mk T H) fs K:=rg_load (gd_of hg) (ev_of hx) (hook_of hh) ht he hy (lt_ok hd) next
theorem fld {t : TypeId} {off m : Nat} {ag : Bool} {e : AV} (ht : tk P t = some (ag, m)) (hg : gdOp ops T gd = some gts) (hx : evOp T x = some (.fptr e off, ts)) (hy : partOf e ag m off = some y) (hd : Nat.blt d n.n = true)
    (next:RG P ops n c (k+1) rest (mk ((d,y)::T) H) (⟨gts++ts,[],[]⟩::fs) K):RG P ops n c k (⟨some d,.load t x,ty,pos,aft,gd⟩::rest) (mk T H) fs K:=rg_fload (gd_of hg) (ev_of hx) ht hy (lt_ok hd) next
theorem fa {t : TypeId} {s g i off f o : Nat} (hf : fo P t f = some o) (hg : gdOp ops T gd = some gts) (hx : evOp T x = some (.ptr s g i off, ts)) (hd : Nat.blt d n.n = true)
    (next:RG P ops n c (k+1) rest (mk ((d,.ptr s g i (off+o))::T) H) (⟨gts++ts,[],[]⟩::fs) K):RG P ops n c k (⟨some d,.fieldAddr t x f,ty,pos,aft,gd⟩::rest) (mk T H) fs K:=rg_field (gd_of hg) (ev_of hx) hf (lt_ok hd) next
theorem ffa {t : TypeId} {e : AV} {off f o : Nat} (hf : fo P t f = some o) (hg : gdOp ops T gd = some gts) (hx : evOp T x = some (.fptr e off, ts)) (hd : Nat.blt d n.n = true)
    (next:RG P ops n c (k+1) rest (mk ((d,.fptr e (off+o))::T) H) (⟨gts++ts,[],[]⟩::fs) K):RG P ops n c k (⟨some d,.fieldAddr t x f,ty,pos,aft,gd⟩::rest) (mk T H) fs K:=rg_ffield (gd_of hg) (ev_of hx) hf (lt_ok hd) next
theorem nck {s g i off : Nat} (hg : gdOp ops T gd = some gts) (hx : evOp T x = some (.ptr s g i off, ts)) (hd : Nat.blt d n.n = true) (next : RG P ops n c (k + 1) rest (mk ((d, .ptr s g i off) :: T) H) (⟨gts ++ ts, [], []⟩ :: fs) K) :
    RG P ops n c k (⟨some d,.nilCheck x,ty,pos,aft,gd⟩::rest) (mk T H) fs K:=rg_nilCheck (gd_of hg) (ev_of hx) (lt_ok hd) next
theorem fnck {e : AV} {off : Nat} (hg : gdOp ops T gd = some gts) (hx : evOp T x = some (.fptr e off, ts)) (hd : Nat.blt d n.n = true) (next : RG P ops n c (k + 1) rest (mk ((d, .fptr e off) :: T) H) (⟨gts ++ ts, [], []⟩ :: fs) K) :
    RG P ops n c k (⟨some d,.nilCheck x,ty,pos,aft,gd⟩::rest) (mk T H) fs K:=rg_fnilCheck (gd_of hg) (ev_of hx) (lt_ok hd) next
theorem str {t : TypeId} {s g i off sz m : Nat} {ag : Bool} {xs : List AV} {e e' : AV} (ht : tk P t = some (ag, m)) (hg : gdOp ops T gd = some gts) (h1 : evOp T x1 = some (.ptr s g i off, ts1)) (h2 : evOp T x2 = some (y, ts2)) (hh : H.lookup s = some (some (g, .buf sz xs))) (hm : szOf y = some m) (he : xs[i]? = some e) (he' : setPart e off y = some e')
    (next:RG P ops n c (k+1) rest (mk T ((s,some (g,.buf sz (xs.set i e')))::H)) (⟨gts++(ts1++ts2),[s],[s]⟩::fs) K):RG P ops n c k (⟨none,.store t x1 x2,ty,pos,aft,gd⟩::rest) (mk T H) fs K:=rg_store (gd_of hg) (ev_of h1) (ev_of h2) (hook_of hh) hm ht he he' next
theorem bx (s : Nat) {t : TypeId} {sz : Nat} (hg : gdOp ops T gd = some gts) (hx : evOp T x = some (y, ts)) (hs : szOf y = some sz) (hd : Nat.blt d n.n = true)
    (next:RG P ops n c (k+1) rest (mk ((d,.ptr s (c+k) 0 0)::T) ((s,some (c+k,.buf sz [y]))::H)) (⟨gts++ts,[],[s]⟩::fs) K):RG P ops n c k (⟨some d,.box t x,ty,pos,aft,gd⟩::rest) (mk T H) fs K:=rg_box (gd_of hg) (ev_of hx) hs (lt_ok hd) next
theorem lnf {α : Type} {f : α → AV} {l : List α} {t : TypeId} {nw : Bool} {sz : Nat} (ht : slB P t = true) (hg : gdOp ops T gd = some gts) (hx : evOp T x = some (.lst nw sz (l.map f), ts)) (hd : Nat.blt d n.n = true)
    (next:RG P ops n c (k+1) rest (mk ((d,.v (.int .i64 (l.length:Int)))::T) H) (⟨gts++ts,[],[]⟩::fs) K):RG P ops n c k (⟨some d,.call ⟨.builtin .len,#[x],#[t]⟩,ty,pos,aft,gd⟩::rest) (mk T H) fs K :=
 rg_len (gd_of hg) (ev_of hx) ht (lt_ok hd) (by simpa using next)
theorem lno {t : TypeId} {s g sz off len : Nat} {cl : Bool} (ht : slB P t = true) (hg : gdOp ops T gd = some gts) (hx : evOp T x = some (.own s g sz off len cl, ts)) (hd : Nat.blt d n.n = true)
    (next:RG P ops n c (k+1) rest (mk ((d,.v (.int .i64 (len:Int)))::T) H) (⟨gts++ts,[],[]⟩::fs) K):RG P ops n c k (⟨some d,.call ⟨.builtin .len,#[x],#[t]⟩,ty,pos,aft,gd⟩::rest) (mk T H) fs K:=rg_olen (gd_of hg) (ev_of hx) ht (lt_ok hd) next
theorem bld {t : TypeId} {parts : List (Nat × Operand)} {ps : List (Nat × AV)} {zs : List Value} {pl : List (Nat × Nat)} {ys : List AV} (ht : bd P t = some (zs, pl)) (hg : gdOp ops T gd = some gts) (hx : evPs T parts = some (ps, ts)) (hf : fillA (pl[·]?) (zs.map .v) ps = some ys) (hd : Nat.blt d n.n = true)
    (next:RG P ops n c (k+1) rest (mk ((d,.agg ys)::T) H) (⟨gts++ts,[],[]⟩::fs) K):RG P ops n c k (⟨some d,.build t parts.toArray,ty,pos,aft,gd⟩::rest) (mk T H) fs K:=rg_build (gd_of hg) (evPs_of hx) ht hf (lt_ok hd) next
theorem blds (s : Nat) {t e : TypeId} {len sz by_ : Nat} {zs : List Value} {parts : List (Nat × Operand)} {ps : List (Nat × AV)} {ys : List AV} (ht : se P t = some (e, sz, zs, by_)) (hg : gdOp ops T gd = some gts) (hx : evPs T parts = some (ps, ts)) (hok : setOk sz len ps = true) (hy : setAll (List.replicate len (zeroA zs)) ps = ys) (hsm : Nat.ble (len * sz) 16777216 = true) (hd : Nat.blt d n.n = true)
    (next:RG P ops n c (k+1) rest (mk ((d,.own s (c+k) sz 0 len false)::T) ((s,some (c+k,.buf sz ys))::H)) (⟨gts++ts,[],[s]⟩::fs) K):RG P ops n c k (⟨some d,.buildSlice t len parts.toArray,ty,pos,aft,gd⟩::rest) (mk T H) fs K:=by
 subst hy;exact rg_buildSlice (gd_of hg) (evPs_of hx) ht hok (le_ok hsm) (lt_ok hd) next
end
section
variable {X : Run} {cl : Nat} {T : TL} {H : HL} {Φ : Act → World → Prop}
theorem ateq (t:Nat) {x y:AV} (h:T.lookup t=some x) (hxy:x=y) (next:At X cl (mk ((t,y)::T) H) Φ):At X cl (mk T H) Φ:=by rw [← mk_T_eq h hxy];exact next
inductive LooksT (T:TL):TL→Prop
 | nil:LooksT T []
 | cons (t x y T'):T.lookup t=some x→x=y→LooksT T T'→LooksT T ((t,y)::T')
theorem LooksT.all {T T':TL} (h:LooksT T T'):∀ p∈T',Look T p.1 p.2:=by
 induction h with
 | nil=>simp
 | cons t x y T' h e _ ih =>
  intro p hp
  rcases List.mem_cons.1 hp with rfl | hp
  ·subst e;exact look_of h
  ·exact ih p hp
inductive HooksT (H:HL):HL→Prop
 | nil:HooksT H []
 | cons (s g o o' H'):H.lookup s=some (some (g,o))→o=o'→HooksT H H'→HooksT H ((s,some (g,o'))::H')
theorem HooksT.all {H H':HL} (h:HooksT H H'):∀ p∈H',∃ g o,p.2=some (g,o)∧Hook H p.1 g o:=by
 induction h with
 | nil=>simp
 | cons s g o o' H' h e _ ih =>
  intro p hp
  rcases List.mem_cons.1 hp with rfl | hp
  ·subst e;exact ⟨g,o,rfl,hook_of h⟩
  ·exact ih p hp
theorem wk {T':TL}{H':HL} (hT:LooksT T T') (hH:HooksT H H') (h:At X cl (mk T' H') Φ):At X cl (mk T H) Φ:=at_weak hT.all hH.all h
theorem loopI {P : Program} {Q : Exit → Act → World → Prop} {c : Code} {ι : Type} (S : ι → St) (I : ι → Prop) (m : ι → Nat)
    (round:∀ i cl,I i→At X cl (S i) (c.wp P (Exit.then (fun a w=>∃ j cl',(I j∧m j < m i)∧Sim X.n X.base X.w0 X.F (· < cl') (S j) a w) Q))) (i:ι) (hi:I i) (cl:Nat):At X cl (S i) ((Code.loop c).wp P Q) :=
 at_loop (fun p:{i // I i}=>S p.1) (fun p=>m p.1) (fun p cl a w hs=>wp_mono (round p.1 cl p.2 a w hs) fun e a' w' hh=>by
  cases e with
  | normal=>obtain ⟨j,cl',h1,h2⟩:=hh;exact ⟨⟨j,h1.1⟩,cl',h1.2,h2⟩
  | _=>exact hh) ⟨i,hi⟩ cl
theorem againI {ι : Type} {S : ι → St} {I : ι → Prop} {m : ι → Nat} {i : ι} (j : ι) {T' : TL} {H' : HL} (hS : S j = mk T' H') (hI : I j) (hm : m j < m i) (hT : LooksT T T') (hH : HooksT H H') :
    At X cl (mk T H) (fun a w=>∃ j cl',(I j∧m j < m i)∧Sim X.n X.base X.w0 X.F (· < cl') (S j) a w) :=
 at_weak hT.all hH.all fun a w hs=>⟨j,cl,⟨hI,hm⟩,by rw [hS];exact hs⟩
end
end Go.Ar
namespace Go.Ar
open Go.RowKit
def gdOff (ops:Array Oper) (T:TL):Option (Nat × Bool)→Option Nat
 | none=>none
 | some (j,b)=>match dstOf ops j with
  | some d=>match T.lookup d with
   | some (.v (.bool c))=>if c = !b then some d else none
   | some (.tup [])=>some d
   | _=>none
  | none=>none
section
variable {P : Program} {ops : Array Oper} {n : Nn} {c k : Nat} {rest : List Oper} {T : TL} {H : HL} {fs : List Foot} {K : List Foot → St → Prop}
variable {d ty : Nat} {pos : String} {aft : Array Edge} {gd : Option (Nat × Bool)} {gts ts ts0 ts1 ts2 ts3 : List Nat} {x x1 x2 x3 : Operand} {y y1 y2 : AV}
theorem rg_skipU {o : Oper} {j e : Nat} {b : Bool} {x : AV} (hgu : o.guard = some (j, b)) (hj : dstOf ops j = some e) (hl : Look T e x) (hx : x = .v (.bool (!b)) ∨ x = .tup []) (hd : ∀ x, o.dst = some x → x < n.n)
    (next:RG P ops n c (k+1) rest ((mk T H).app o.dst ⟨[(e,x)],[],.tup [],c+k,[]⟩) (⟨[e],[],[]⟩::fs) K):RG P ops n c k (o::rest) (mk T H) fs K:=by
 intro hdr
 obtain ⟨hdst,ho,hd',_⟩:=dstOf_of hdr
 refine ⟨_,?_,rfl,⟨?_,by simp⟩,next hd'⟩
 ·intro base w0 F G st a w Q K' hG hp hs hK
  obtain ⟨E,hs⟩:=hs
  rw [hdst] at hK
  have hw:Region.wanted o (yielded ops a.tmps)=false:=by
   unfold Region.wanted
   rw [hgu]
   simp only [yielded]
   have h1:=hp.temps (e,x) (by simp)
   have h2:=hs.tmps e
   rw [h1] at h2
   have h6:(ops[j]?).bind (·.dst)=some e:=hj
   rw [h6]
   simp only [Option.bind_some]
   cases h5:a.tmps[e]? with
   | none=>simp
   | some u =>
    have hu:a.eval (.tmp e)=u:=by simp [Act.eval,h5]
    rw [hu] at h2
    rcases hx with rfl | rfl
    ·rw [vt_v_eq h2];simp
    ·obtain ⟨vs,e2,_⟩:=h2;rw [e2];simp
  unfold wpOp
  simp only [ho,hw,Bool.false_eq_true,if_false]
  exact hK _ _ ⟨E,hs.put rfl hd ⟨[],rfl,rfl,by simp⟩⟩
 ·intro p hp
  simp only [List.mem_singleton] at hp
  subst hp
  exact hl.eq
theorem gdOff_of {gd:Option (Nat × Bool)}{e:Nat} (hg:gdOff ops T gd=some e):∃ j b x,gd=some (j,b)∧dstOf ops j=some e∧Look T e x∧(x = .v (.bool (!b))∨x = .tup []):=by
 unfold gdOff at hg
 split at hg
 ·cases hg
 ·rename_i j b
  split at hg
  ·rename_i e' hj
   split at hg
   ·rename_i c' hl
    split at hg
    ·rename_i hcb
     subst hcb
     cases hg
     exact ⟨j,b,_,rfl,hj,look_of hl,.inl rfl⟩
    ·cases hg
   ·rename_i hl
    cases hg
    exact ⟨j,b,_,rfl,hj,look_of hl,.inr rfl⟩
   ·cases hg
  ·cases hg
theorem sk {op:Op}{g:Nat} (hg:gdOff ops T gd=some g) (hd:Nat.blt d n.n=true) (next:RG P ops n c (k+1) rest (mk ((d,.tup [])::T) H) (⟨[g],[],[]⟩::fs) K):RG P ops n c k (⟨some d,op,ty,pos,aft,gd⟩::rest) (mk T H) fs K:=by
 obtain ⟨j,b,x,rfl,hj,hl,hx⟩:=gdOff_of hg
 refine rg_skipU rfl hj hl hx (by intro z hz;cases hz;exact lt_ok hd) ?_
 rw [app_mk]
 exact next
theorem sk0 {op:Op}{g:Nat} (hg:gdOff ops T gd=some g) (next:RG P ops n c (k+1) rest (mk T H) (⟨[g],[],[]⟩::fs) K):RG P ops n c k (⟨none,op,ty,pos,aft,gd⟩::rest) (mk T H) fs K:=by
 obtain ⟨j,b,x,rfl,hj,hl,hx⟩:=gdOff_of hg
 refine rg_skipU rfl hj hl hx (by intro z hz;cases hz) ?_
 rw [app_mk0]
 exact next
theorem pkt (hg : gdOp ops T gd = some gts) (hx : evOp T x = some (.v (.bool true), ts)) (h1 : evOp T x1 = some (y1, ts1)) (h2 : evOp T x2 = some (y2, ts2)) (hd : Nat.blt d n.n = true) (next : RG P ops n c (k + 1) rest (mk ((d, y1) :: T) H) (⟨gts ++ (ts ++ ts1 ++ ts2), [], []⟩ :: fs) K) :
    RG P ops n c k (⟨some d,.pick x x1 x2,ty,pos,aft,gd⟩::rest) (mk T H) fs K:=rg_pick (gd_of hg) (ev_of hx) (ev_of h1) (ev_of h2) (lt_ok hd) next
theorem pkf (hg : gdOp ops T gd = some gts) (hx : evOp T x = some (.v (.bool false), ts)) (h1 : evOp T x1 = some (y1, ts1)) (h2 : evOp T x2 = some (y2, ts2)) (hd : Nat.blt d n.n = true) (next : RG P ops n c (k + 1) rest (mk ((d, y2) :: T) H) (⟨gts ++ (ts ++ ts1 ++ ts2), [], []⟩ :: fs) K) :
    RG P ops n c k (⟨some d,.pick x x1 x2,ty,pos,aft,gd⟩::rest) (mk T H) fs K:=rg_pick (gd_of hg) (ev_of hx) (ev_of h1) (ev_of h2) (lt_ok hd) next
end
section
variable {P : Program} {X : Run} {cl : Nat} {T : TL} {H : HL} {Q : Exit → Act → World → Prop} {x y : Code} {t : Nat}
theorem cdt (hl:T.lookup t=some (.v (.bool true))) (h:At X cl (mk T H) (x.wp P Q)):At X cl (mk T H) ((Code.cond (.tmp t) x y).wp P Q):=at_cond (look_of hl) (fun _=>h) (fun e=>nomatch e)
theorem cdf (hl:T.lookup t=some (.v (.bool false))) (h:At X cl (mk T H) (y.wp P Q)):At X cl (mk T H) ((Code.cond (.tmp t) x y).wp P Q):=at_cond (look_of hl) (fun e=>nomatch e) (fun _=>h)
theorem cd {b:Bool} (hl:T.lookup t=some (.v (.bool b))) (ht:b=true→At X cl (mk T H) (x.wp P Q)) (hf:b=false→At X cl (mk T H) (y.wp P Q)):At X cl (mk T H) ((Code.cond (.tmp t) x y).wp P Q):=at_cond (look_of hl) ht hf
end
end Go.Ar
namespace Go.Ar
open Go.RowKit
inductive PuL:List AV→Prop
 | nil:PuL []
 | cons {x xs}:Pu x→PuL xs→PuL (x::xs)
theorem PuL.rn {xs:List AV} (h:PuL xs) {σ:Sel}{Z:List (Nat × Nat × Ob)}:RnL σ Z xs xs:=by
 induction h with
 | nil=>exact .nil
 | cons h _ ih=>exact .cons _ _ _ _ (.pu _ h) ih
inductive PuT:AV→Prop
 | one {x}:Pu x→PuT x
 | tup {xs}:PuL xs→PuT (.tup xs)
theorem PuT.rn {x:AV} (h:PuT x) {σ:Sel}{Z:List (Nat × Nat × Ob)}:RnT σ Z x x:=by
 cases h with
 | one h=>exact .one _ _ (.pu _ h)
 | tup h=>exact .tup _ _ rfl fun i x y hx hy=>by rw [hx] at hy;cases hy;exact (h.rn (σ:=σ) (Z:=Z)).get.2 i x x hx hx
section
variable {P : Program} {ops : Array Oper} {n : Nn} {c k : Nat} {rest : List Oper} {T : TL} {H : HL} {fs : List Foot} {K : List Foot → St → Prop}
variable {d ty : Nat} {pos : String} {aft : Array Edge} {gd : Option (Nat × Bool)} {gts ts ts0 ts1 ts2 ts3 : List Nat} {x x1 x2 x3 : Operand} {y y1 y2 : AV}
theorem clp {f : FuncId} {args : List Operand} {at_ : Array TypeId} {asx : List AV} (hdoes : Does P n.gl f [] asx [] [] y) (hc : callable P f = true) (hg : gdOp ops T gd = some gts) (ha : evOps T args = some (asx, ts)) (hpa : PuL asx) (hpy : PuT y) (hd : Nat.blt d n.n = true)
    (next:RG P ops n c (k+1) rest (mk ((d,y)::T) H) (⟨gts++ts,[],[]⟩::fs) K):RG P ops n c k (⟨some d,.call ⟨.value (.func f),args.toArray,at_⟩,ty,pos,aft,gd⟩::rest) (mk T H) fs K :=
 rg_callp [] (ts0:=[]) (first:=[]) (caps:=[]) hdoes (gd_of hg) (.func f) (evL_of ha) hc ⟨rfl,rfl⟩ (by simp) (by simpa using hpa.rn) hpy.rn (lt_ok hd) next
theorem clv {f : FuncId} {args : List Operand} {at_ : Array TypeId} {first caps asx zs : List AV} (hdoes : Does P n.gl f [] zs [] [] y) (hc : callable P f = true) (hg : gdOp ops T gd = some gts) (hx : evOp T x = some (.fn (.func f) first caps, ts0)) (ha : evOps T args = some (asx, ts)) (hz : first ++ asx ++ caps = zs) (hfl : first.all flat = true ∧ caps.all flat = true) (hpa : PuL zs) (hpy : PuT y) (hd : Nat.blt d n.n = true)
    (next:RG P ops n c (k+1) rest (mk ((d,y)::T) H) (⟨gts++(ts0++ts),[],[]⟩::fs) K):RG P ops n c k (⟨some d,.call ⟨.value x,args.toArray,at_⟩,ty,pos,aft,gd⟩::rest) (mk T H) fs K:=by
 subst hz
 exact rg_callp [] hdoes (gd_of hg) (ev_of hx) (evL_of ha) hc hfl (by simp) hpa.rn hpy.rn (lt_ok hd) next
theorem fsl {α : Type} {f : α → AV} {l : List α} {t e : TypeId} {lo hi : Option Operand} {a b : Option Nat} {nw : Bool} {sz : Nat} (ht : sl P t = some (e, sz)) (hg : gdOp ops T gd = some gts) (hx : evOp T x = some (.lst nw sz (l.map f), ts)) (h1 : EvO T lo a ts1) (h2 : EvO T hi b ts2) (hd : Nat.blt d n.n = true) (hle : a.getD 0 ≤ b.getD l.length) (hlen : b.getD l.length ≤ l.length)
    (next:RG P ops n c (k+1) rest (mk ((d,.lst nw sz (((l.take (b.getD l.length)).drop (a.getD 0)).map f))::T) H) (⟨gts++(ts++ts1++ts2),[],[]⟩::fs) K):RG P ops n c k (⟨some d,.slice t x lo hi none,ty,pos,aft,gd⟩::rest) (mk T H) fs K:=by
 refine rg_fslice (gd_of hg) (ev_of hx) h1 h2 ht (by simpa using hle) (by simpa using hlen) (lt_ok hd) ?_
 simpa [List.map_take,List.map_drop] using next
end
section
variable {P : Program} {fn : Func} {X : Run} {cl : Nat} {T : TL} {H : HL}
theorem outs {rs:List Nat}{xs ys:List AV}{e:Exit} (hr:∀ tmps w,(results fn tmps).run P w = .ok (resV tmps rs) w) (h1:rs.length≠1) (he:e = .ret∨e = .normal) (hl:Looks T rs xs) (hxy:xs=ys) (hp:PuL ys):At X cl (mk T H) (Out P fn X [] [] (.tup ys) e):=by
 subst hxy
 refine at_outs hr h1 hl (.nil _) (fun _ h=>absurd h List.not_mem_nil) ((PuT.tup hp).rn) e he fun x hx C v=>?_
 have:Pu x:=by
  clear hl h1 hr
  induction hp with
  | nil=>simp at hx
  | cons h _ ih =>
   rcases List.mem_cons.1 hx with rfl | hx
   ·exact h
   ·exact ih hx
 cases this <;> rfl
def lookAll (T:TL):List Nat→Option (List AV)
 | []=>some []
 | r::rs=>match T.lookup r,lookAll T rs with
  | some x,some xs=>some (x::xs)
  | _,_=>none
theorem looks_of:∀ {rs:List Nat}{xs:List AV},lookAll T rs=some xs→Looks T rs xs:=by
 intro rs
 induction rs with
 | nil=>intro xs h;cases h;exact .nil
 | cons r rs ih =>
  intro xs h
  unfold lookAll at h
  split at h
  ·rename_i h1 h2;cases h;exact .cons _ _ _ _ (look_of h1) (ih h2)
  ·cases h
end
end Go.Ar
namespace Go.Ar
open Go.RowKit
theorem nil_lst {sz:Nat}:∀ C v,VT C (.v (.slice none 0 0)) v→VT C (.lst false sz []) v:=by
 intro C v h
 rw [vt_v_eq h]
 exact ⟨rfl,.lst false sz [] none 0 (fun _=>[]) (by simp) (by simp) (by simp) (by simp)⟩
theorem rn_own {σ:Sel}{Z:List (Nat × Nat × Ob)}{s g sz len:Nat}{cl:Bool}{xs:List AV} (hm:(s,g,.buf sz xs)∈Z) (hp:∀ x∈xs,Pu x) (hl:len=xs.length):Rn σ Z (.own s g sz 0 len cl) (.lst false sz xs):=by
 have:=Rn.zlst (σ:=σ) (Z:=Z) s g sz 0 len cl xs xs hm (by omega) rfl (fun i x y hx hy=>by rw [hx] at hy;cases hy;exact .pu _ (hp x (List.mem_of_getElem? hx)))
 rw [List.drop_zero,List.take_of_length_le (by omega)] at this
 exact this
theorem pu_map {α:Type}{f:α→AV} (hf:∀ a,Pu (f a)) (l:List α):∀ x∈l.map f,Pu x:=by
 intro x hx
 obtain ⟨a,_,rfl⟩:=List.mem_map.1 hx
 exact hf a
section
variable {P : Program} {fn : Func} {X : Run} {cl : Nat} {T : TL} {H : HL}
theorem flat_vv {σ:Sel}{Z:List (Nat × Nat × Ob)}{xs ys:List AV} (h:RnL σ Z xs ys):∀ x∈xs,∀ C v,VT C x v=VV C x v:=by
 intro x hx C v
 obtain ⟨i,hi⟩:=List.mem_iff_getElem?.1 hx
 have hlt:=(List.getElem?_eq_some_iff.1 hi).1
 have hy:ys[i]? = some (ys[i]'(by have:=h.get.1;omega)):=List.getElem?_eq_getElem _
 exact (h.get.2 i x _ hi hy).tupless.1 C v
theorem hz1 {H:HL}{s g:Nat}{o:Ob} (h:H.lookup s=some (some (g,o))):∀ z∈[(s,g,o)],Hook H z.1 z.2.1 z.2.2:=by
 intro z hz
 simp at hz
 subst hz
 exact hook_of h
theorem atnil (t sz:Nat) {Φ:Act→World→Prop} (h:T.lookup t=some (.v (.slice none 0 0))) (next:At X cl (mk ((t,.lst false sz [])::T) H) Φ):At X cl (mk T H) Φ:=at_set (look_of h) nil_lst next
end
section
variable {P : Program} {ops : Array Oper} {n : Nn} {c k : Nat} {rest : List Oper} {T : TL} {H : HL} {fs : List Foot} {K : List Foot → St → Prop}
variable {d ty : Nat} {pos : String} {aft : Array Edge} {gd : Option (Nat × Bool)} {gts ts ts0 ts1 ts2 ts3 : List Nat} {x x1 x2 x3 : Operand} {y y1 y2 : AV}
theorem apl {α : Type} {f : α → AV} {l zs : List α} (s' : Nat) {t e : TypeId} {s g sz by_ : Nat} {cl nw : Bool} {zv : List Value} {len : Nat} (ht : se P t = some (e, sz, zv, by_)) (hg : gdOp ops T gd = some gts) (h1 : evOp T x1 = some (.own s g sz 0 len cl, ts1)) (h2 : evOp T x2 = some (.lst nw sz (zs.map f), ts2)) (hh : H.lookup s = some (some (g, .buf sz (l.map f)))) (hd : Nat.blt d n.n = true) (hl : l.length = len)
    (hby:(l.length+zs.length) * by_≤140737488355328) (hsm:l.length+zs.length≤140737488355328)
    (next:RG P ops n c (k+1) rest (mk ((d,.own s' (c+k) sz 0 (l++zs).length false)::T) ((s',some (c+k,.buf sz ((l++zs).map f)))::(s,none)::H)) (⟨gts++(ts1++ts2),[s],[s',s]⟩::fs) K) :
    RG P ops n c k (⟨some d,.call ⟨.builtin .append,#[x1,x2],#[t,t]⟩,ty,pos,aft,gd⟩::rest) (mk T H) fs K:=by
 subst hl
 exact rg_append_lst (gd_of hg) (ev_of h1) (ev_of h2) (hook_of hh) (by simp) ht (by simpa using hby) (by simpa using hsm) (lt_ok hd) (by simpa using next)
theorem apo {α : Type} {f : α → AV} {l : List α} (zs : List α) (s' : Nat) {t e : TypeId} {s g sz by_ s2 g2 off m : Nat} {cl cl2 : Bool} {zv : List Value} {len : Nat} {ys : List AV} (ht : se P t = some (e, sz, zv, by_)) (hg : gdOp ops T gd = some gts) (h1 : evOp T x1 = some (.own s g sz 0 len cl, ts1)) (h2 : evOp T x2 = some (.own s2 g2 sz off m cl2, ts2)) (hh : H.lookup s = some (some (g, .buf sz (l.map f)))) (hh2 : H.lookup s2 = some (some (g2, .buf sz ys))) (hd : Nat.blt d n.n = true) (hl : l.length = len)
    (hle:off+m≤ys.length) (hz:(ys.drop off).take m=zs.map f) (hby:(l.length+zs.length) * by_≤140737488355328) (hsm:l.length+zs.length≤140737488355328)
    (next:RG P ops n c (k+1) rest (mk ((d,.own s' (c+k) sz 0 (l++zs).length false)::T) ((s',some (c+k,.buf sz ((l++zs).map f)))::(s,none)::H)) (⟨gts++(ts1++ts2),[s,s2],[s',s]⟩::fs) K) :
    RG P ops n c k (⟨some d,.call ⟨.builtin .append,#[x1,x2],#[t,t]⟩,ty,pos,aft,gd⟩::rest) (mk T H) fs K:=by
 subst hl
 have hm:zs.length=m:=by
  have:=congrArg List.length hz
  simp at this
  omega
 refine rg_append (s':=s') (gd_of hg) (ev_of h1) (ev_of h2) (hook_of hh) (hook_of hh2) (by simp) hle ht (by rw [← hm];exact hby) (by rw [← hm];exact hsm) (lt_ok hd) ?_
 rw [hz,← hm]
 simpa using next
end
end Go.Ar
